-- Written by a program of this session (wip/print2.py): the functions that the law reaches, plain, and the walks.
import Derived.Test.YtpaohkhmhdhibaaPFnConicManyx0
import Derived.Test.YtpaohkhmhdhibaaPFnConicManyx7
import Derived.Test.YtpaohkhmhdhibaaPFnConicManyx13
namespace Go.Proofs.Ytpaohkhmhdhibaa.PFnConicMany
open Go.RowKit Go.Proofs.YtpaohkhmhdhibaaW.PrintWords Go.Proofs.YtpaohkhmhdhibaaW.PrintLast Go.Proofs.YtpaohkhmhdhibaaW.PrintMore
attribute [local go_sem] max2_int min2_int max_two min_two max_three min_three max_four min_four   -- for this text's walks alone
set_option linter.unusedVariables false
set_option linter.unusedSimpArgs false

/-! ### spec_l6kMultiple: function 45 -/
mutual
def spec_l6kMultiple.l0 : Nat → List Int → List Int → Int → Option (Bool)
  | 0, _, _, _ => none
  | k + 1, x0, x1, x5 => if x5 < (x0.length : Int) then (spec_l6kMultiple.l1 k x0 x1 x5 0) else (some true)
def spec_l6kMultiple.l1 : Nat → List Int → List Int → Int → Int → Option (Bool)
  | 0, _, _, _, _ => none
  | k + 1, x0, x1, x5, x6 => if x6 < x5 then (if 0 ≤ x5 then (if x5 < (x0.length : Int) then (if 0 ≤ x6 then (if x6 < (x1.length : Int) then (if x6 < (x0.length : Int) then (if x5 < (x1.length : Int) then (if (wrap64 ((rd x0 x5) * (rd x1 x6))) = (wrap64 ((rd x0 x6) * (rd x1 x5))) then (spec_l6kMultiple.l1 k x0 x1 x5 (wrap64 (x6 + 1))) else (some false)) else (none)) else (none)) else (none)) else (none)) else (none)) else (none)) else (spec_l6kMultiple.l0 k x0 x1 (wrap64 (x5 + 1)))
end
def spec_l6kMultiple.f (k : Nat) (l0 : List Int) (l1 : List Int) : Option (Bool) := spec_l6kMultiple.l0 k l0 l1 0
theorem spec_l6kMultiple.mono_l : ∀ k, (∀ y0 y1 y2, LeO (spec_l6kMultiple.l0 k y0 y1 y2) (spec_l6kMultiple.l0 (k + 1) y0 y1 y2)) ∧ (∀ y0 y1 y2 y3, LeO (spec_l6kMultiple.l1 k y0 y1 y2 y3) (spec_l6kMultiple.l1 (k + 1) y0 y1 y2 y3))
  | 0 => ⟨fun _ _ _ r h => by simp [spec_l6kMultiple.l0] at h, fun _ _ _ _ r h => by simp [spec_l6kMultiple.l1] at h⟩
  | k + 1 => by
    obtain ⟨ih0, ih1⟩ := spec_l6kMultiple.mono_l k
    refine ⟨?_, ?_⟩ <;> intros <;> (first | unfold spec_l6kMultiple.l0 | unfold spec_l6kMultiple.l1) <;> (repeat' first
      | (with_reducible exact ih0 _ _ _)
      | (with_reducible exact ih1 _ _ _ _)
      | (with_reducible exact LeO.refl _)
      | (with_reducible exact LeO.none _)
      | (with_reducible refine LeO.ite ?_ ?_)
      | (with_reducible refine LeO.bind ?_ (fun _ => ?_))
      | exact ih0 _ _ _
      | exact ih1 _ _ _ _
      | exact LeO.none _
      | refine LeO.ite ?_ ?_
      | refine LeO.bind ?_ (fun _ => ?_))
theorem spec_l6kMultiple.mono : ∀ a0 a1 k, LeO (spec_l6kMultiple.f k a0 a1) (spec_l6kMultiple.f (k + 1) a0 a1) := by
  intro a0 a1 k
  obtain ⟨ih0, ih1⟩ := spec_l6kMultiple.mono_l k
  unfold spec_l6kMultiple.f
  repeat' first
      | (with_reducible exact ih0 _ _ _)
      | (with_reducible exact ih1 _ _ _ _)
      | (with_reducible exact LeO.refl _)
      | (with_reducible exact LeO.none _)
      | (with_reducible refine LeO.ite ?_ ?_)
      | (with_reducible refine LeO.bind ?_ (fun _ => ?_))
      | exact ih0 _ _ _
      | exact ih1 _ _ _ _
      | exact LeO.none _
      | refine LeO.ite ?_ ?_
      | refine LeO.bind ?_ (fun _ => ?_)
set_option maxHeartbeats 8000000 in
set_option maxRecDepth 100000 in
theorem spec_l6kMultiple.calls (k : Nat) (A0 : Option Addr) (c0 : Nat) (l0 : List Int) (A1 : Option Addr) (c1 : Nat) (l1 : List Int) (r : Bool) (w : World) (hr0 : Kd.C (Kd.int .i64) w A0 l0.length l0) (hc0 : l0.length ≤ c0) (hr1 : Kd.C (Kd.int .i64) w A1 l1.length l1) (hc1 : l1.length ≤ c1) (h : spec_l6kMultiple.f k l0 l1 = some r) :
    Calls Try.prog 45 #[.slice A0 l0.length c0, .slice A1 l1.length c1] w fun e w' => e = .returned (.bool r) ∧ Drawn0 w w' := by
  have HR0 := Aside0.mk hr0; have HC0 := Aside0.mk hc0; clear hr0 hc0; have HR1 := Aside0.mk hr1; have HC1 := Aside0.mk hc1; clear hr1 hc1; unfold spec_l6kMultiple.f at h; have H := h; clear h; have H' := Aside0.mk H; clear H; go_enter Try.func45, Try.ntmps45
  go_wp2
  repeat (go_quiet (fail); try go_wp2)
  go_loopg [5] k (fun kq v5 w' => ∃ (x5_1 : Int), v5 = .int .i64 x5_1 ∧ Aside0 (spec_l6kMultiple.l0 kq l0 l1 x5_1 = some r) ∧ Aside0 (kq ≤ k) ∧ Drawn0 w w')
  case atStart => exact ⟨(0), sR, H', ⟨Nat.le_refl _⟩, by repeat (first | exact Drawn0.refl _ | apply Drawn0.step)⟩
  case round =>
    clear H'; obtain ⟨x5_1, rfl, HA, HK1, ⟨m1, rfl⟩⟩ := hrel; cases gk with
    | zero => exact absurd HA.out (by simp [spec_l6kMultiple.l0])
    | succ k1 =>
      have H := HA.out; clear HA; simp only [spec_l6kMultiple.l0] at H
      by_cases c3 : x5_1 < (l0.length : Int)
      · rw [if_pos c3] at H
        have c3b0 : decide (x5_1 < (l0.length : Int)) = true := decide_eq_true c3; clear c3; have H' := Aside0.mk H; clear H
        go_wp2
        repeat (go_quiet (fail); try go_wp2)
        go_loopg [6] k1 (fun kq v6 w' => ∃ (x6_2 : Int), v6 = .int .i64 x6_2 ∧ Aside0 (spec_l6kMultiple.l1 kq l0 l1 x5_1 x6_2 = some r) ∧ Aside0 (kq ≤ k1) ∧ Drawn0 w w')
        case atStart => exact ⟨(0), sR, H', ⟨Nat.le_refl _⟩, by repeat (first | exact Drawn0.refl _ | apply Drawn0.step)⟩
        case round =>
          clear H'; (try clear c3); (try clear c3b0); obtain ⟨x6_2, rfl, HA, HK2, ⟨m2, rfl⟩⟩ := hrel; cases gk with
          | zero => exact absurd HA.out (by simp [spec_l6kMultiple.l1])
          | succ k2 =>
            have H := HA.out; clear HA; simp only [spec_l6kMultiple.l1] at H
            by_cases c4 : x6_2 < x5_1
            · rw [if_pos c4] at H
              have c4b0 : decide (x6_2 < x5_1) = true := decide_eq_true c4; clear c4; obtain ⟨c5, H⟩ := ifN H; have c5b0 : decide (0 ≤ x5_1) = true := decide_eq_true c5; clear c5; obtain ⟨c6, H⟩ := ifN H; have c6b0 : decide (x5_1 < (l0.length : Int)) = true := decide_eq_true c6; clear c6; obtain ⟨c7, H⟩ := ifN H; have c7b0 : decide (0 ≤ x6_2) = true := decide_eq_true c7; clear c7; obtain ⟨c8, H⟩ := ifN H; have c8b0 : decide (x6_2 < (l1.length : Int)) = true := decide_eq_true c8; clear c8; obtain ⟨c9, H⟩ := ifN H; have c9b0 : decide (x6_2 < (l0.length : Int)) = true := decide_eq_true c9; clear c9; obtain ⟨c10, H⟩ := ifN H; have c10b0 : decide (x5_1 < (l1.length : Int)) = true := decide_eq_true c10; clear c10
              by_cases c11 : (wrap64 ((rd l0 x5_1) * (rd l1 x6_2))) = (wrap64 ((rd l0 x6_2) * (rd l1 x5_1)))
              · rw [if_pos c11] at H
                have c11b0 : ((wrap64 ((rd l0 x5_1) * (rd l1 x6_2))) == (wrap64 ((rd l0 x6_2) * (rd l1 x5_1)))) = true := beq_iff_eq.mpr c11; have c11b1 : ((wrap64 ((rd l0 x5_1) * (rd l1 x6_2))) != (wrap64 ((rd l0 x6_2) * (rd l1 x5_1)))) = false := bne_eq_false_iff_eq.mpr c11; clear c11; have H' := Aside0.mk H; clear H; have p479 : 0 ≤ (x5_1 : Int) := oD; have q479 : x5_1 < (l0.length : Int) := oD; obtain ⟨ad479, e479, hx479_0⟩ := Kd.at_int HR0.out x5_1 p479 q479; cases e479; replace p479 := eq_true p479; replace q479 := eq_true q479; have p480 : 0 ≤ (x6_2 : Int) := oD; have q480 : x6_2 < (l1.length : Int) := oD; obtain ⟨ad480, e480, hx480_0⟩ := Kd.at_int HR1.out x6_2 p480 q480; cases e480; replace p480 := eq_true p480; replace q480 := eq_true q480; have p481 : 0 ≤ (x6_2 : Int) := oD; have q481 : x6_2 < (l0.length : Int) := oD; obtain ⟨ad481, e481, hx481_0⟩ := Kd.at_int HR0.out x6_2 p481 q481; obtain rfl : ad479 = ad481 := (by injection e481); replace p481 := eq_true p481; replace q481 := eq_true q481; have p482 : 0 ≤ (x5_1 : Int) := oD; have q482 : x5_1 < (l1.length : Int) := oD; obtain ⟨ad482, e482, hx482_0⟩ := Kd.at_int HR1.out x5_1 p482 q482; obtain rfl : ad480 = ad482 := (by injection e482); replace p482 := eq_true p482; replace q482 := eq_true q482
                go_wp2
                repeat (go_quiet (fail); try go_wp2)
                go_roundg k2
                case measure => have := HK1.out; have := HK2.out; omega
                case rel => exact ⟨(wrap64 (x6_2 + 1)), sR, H', ⟨by have := HK1.out; have := HK2.out; omega⟩, by repeat (first | exact Drawn0.refl _ | apply Drawn0.step)⟩
              rw [if_neg c11] at H; have c11b0 : ((wrap64 ((rd l0 x5_1) * (rd l1 x6_2))) == (wrap64 ((rd l0 x6_2) * (rd l1 x5_1)))) = false := beq_eq_false_iff_ne.mpr c11; have c11b1 : ((wrap64 ((rd l0 x5_1) * (rd l1 x6_2))) != (wrap64 ((rd l0 x6_2) * (rd l1 x5_1)))) = true := bne_iff_ne.mpr c11; obtain rfl := Option.some.inj H; have p479 : 0 ≤ (x5_1 : Int) := oD; have q479 : x5_1 < (l0.length : Int) := oD; obtain ⟨ad479, e479, hx479_0⟩ := Kd.at_int HR0.out x5_1 p479 q479; cases e479; replace p479 := eq_true p479; replace q479 := eq_true q479; have p480 : 0 ≤ (x6_2 : Int) := oD; have q480 : x6_2 < (l1.length : Int) := oD; obtain ⟨ad480, e480, hx480_0⟩ := Kd.at_int HR1.out x6_2 p480 q480; cases e480; replace p480 := eq_true p480; replace q480 := eq_true q480; have p481 : 0 ≤ (x6_2 : Int) := oD; have q481 : x6_2 < (l0.length : Int) := oD; obtain ⟨ad481, e481, hx481_0⟩ := Kd.at_int HR0.out x6_2 p481 q481; obtain rfl : ad479 = ad481 := (by injection e481); replace p481 := eq_true p481; replace q481 := eq_true q481; have p482 : 0 ≤ (x5_1 : Int) := oD; have q482 : x5_1 < (l1.length : Int) := oD; obtain ⟨ad482, e482, hx482_0⟩ := Kd.at_int HR1.out x5_1 p482 q482; obtain rfl : ad480 = ad482 := (by injection e482); replace p482 := eq_true p482; replace q482 := eq_true q482
              go_wp2
              repeat (go_quiet (fail); try go_wp2)
              go_ret
              exact ⟨by first | rfl | (simp; done) | (simp [*]; done), by repeat (first | exact Drawn0.refl _ | apply Drawn0.step)⟩
            rw [if_neg c4] at H; have c4b0 : decide (x6_2 < x5_1) = false := decide_eq_false c4; clear c4; have H' := Aside0.mk H; clear H
            go_wp2
            repeat (go_quiet (fail); try go_wp2)
            go_roundg k2
            case measure => have := HK1.out; have := HK2.out; omega
            case rel => exact ⟨(wrap64 (x5_1 + 1)), sR, H', ⟨by have := HK1.out; have := HK2.out; omega⟩, by repeat (first | exact Drawn0.refl _ | apply Drawn0.step)⟩
      rw [if_neg c3] at H; have c3b0 : decide (x5_1 < (l0.length : Int)) = false := decide_eq_false c3; clear c3; obtain rfl := Option.some.inj H
      go_wp2
      repeat (go_quiet (fail); try go_wp2)
      go_ret
      exact ⟨by first | rfl | (simp; done) | (simp [*]; done), by repeat (first | exact Drawn0.refl _ | apply Drawn0.step)⟩

/-! ### spec_l5Pair: function 47 -/
def spec_l5Pair.l0 : Nat → List Int → List Int → List Int → Int → Int → Option (Int)
  | 0, _, _, _, _, _ => none
  | k + 1, x0, x1, x2, x7, x8 => if x8 < (x0.length : Int) then (if 0 ≤ x8 then (if x8 < (x1.length : Int) then (if x8 < (x2.length : Int) then (spec_l5Pair.l0 k x0 x1 x2 (wrap64 (x7 + (wrap64 ((wrap64 ((rd x0 x8) * (rd x1 x8))) * (rd x2 x8))))) (wrap64 (x8 + 1))) else (none)) else (none)) else (none)) else (some x7)
def spec_l5Pair.f (k : Nat) (l0 : List Int) (l1 : List Int) (l2 : List Int) : Option (Int) := spec_l5Pair.l0 k l0 l1 l2 0 0
theorem spec_l5Pair.mono_l : ∀ k, (∀ y0 y1 y2 y3 y4, LeO (spec_l5Pair.l0 k y0 y1 y2 y3 y4) (spec_l5Pair.l0 (k + 1) y0 y1 y2 y3 y4))
  | 0 => fun _ _ _ _ _ r h => by simp [spec_l5Pair.l0] at h
  | k + 1 => by
    have ih0 := spec_l5Pair.mono_l k
    · intro y0 y1 y2 y3 y4
      unfold spec_l5Pair.l0
      repeat' first
      | (with_reducible exact ih0 _ _ _ _ _)
      | (with_reducible exact LeO.refl _)
      | (with_reducible exact LeO.none _)
      | (with_reducible refine LeO.ite ?_ ?_)
      | (with_reducible refine LeO.bind ?_ (fun _ => ?_))
      | exact ih0 _ _ _ _ _
      | exact LeO.none _
      | refine LeO.ite ?_ ?_
      | refine LeO.bind ?_ (fun _ => ?_)
theorem spec_l5Pair.mono : ∀ a0 a1 a2 k, LeO (spec_l5Pair.f k a0 a1 a2) (spec_l5Pair.f (k + 1) a0 a1 a2) := by
  intro a0 a1 a2 k
  have ih0 := spec_l5Pair.mono_l k
  unfold spec_l5Pair.f
  repeat' first
      | (with_reducible exact ih0 _ _ _ _ _)
      | (with_reducible exact LeO.refl _)
      | (with_reducible exact LeO.none _)
      | (with_reducible refine LeO.ite ?_ ?_)
      | (with_reducible refine LeO.bind ?_ (fun _ => ?_))
      | exact ih0 _ _ _ _ _
      | exact LeO.none _
      | refine LeO.ite ?_ ?_
      | refine LeO.bind ?_ (fun _ => ?_)
set_option maxHeartbeats 8000000 in
set_option maxRecDepth 100000 in
theorem spec_l5Pair.calls (k : Nat) (A0 : Option Addr) (c0 : Nat) (l0 : List Int) (A1 : Option Addr) (c1 : Nat) (l1 : List Int) (A2 : Option Addr) (c2 : Nat) (l2 : List Int) (r : Int) (w : World) (hr0 : Kd.C (Kd.int .i64) w A0 l0.length l0) (hc0 : l0.length ≤ c0) (hr1 : Kd.C (Kd.int .i64) w A1 l1.length l1) (hc1 : l1.length ≤ c1) (hr2 : Kd.C (Kd.int .i64) w A2 l2.length l2) (hc2 : l2.length ≤ c2) (h : spec_l5Pair.f k l0 l1 l2 = some r) :
    Calls Try.prog 47 #[.slice A0 l0.length c0, .slice A1 l1.length c1, .slice A2 l2.length c2] w fun e w' => e = .returned (.int .i64 r) ∧ Drawn0 w w' := by
  have HR0 := Aside0.mk hr0; have HC0 := Aside0.mk hc0; clear hr0 hc0; have HR1 := Aside0.mk hr1; have HC1 := Aside0.mk hc1; clear hr1 hc1; have HR2 := Aside0.mk hr2; have HC2 := Aside0.mk hc2; clear hr2 hc2; unfold spec_l5Pair.f at h; have H := h; clear h; have H' := Aside0.mk H; clear H; go_enter Try.func47, Try.ntmps47
  go_wp2
  repeat (go_quiet (fail); try go_wp2)
  go_loopg [7, 8] k (fun kq v7 v8 w' => ∃ (x7_1 : Int) (x8_1 : Int), v7 = .int .i64 x7_1 ∧ v8 = .int .i64 x8_1 ∧ Aside0 (spec_l5Pair.l0 kq l0 l1 l2 x7_1 x8_1 = some r) ∧ Aside0 (kq ≤ k) ∧ Drawn0 w w')
  case atStart => exact ⟨(0), (0), sR, sR, H', ⟨Nat.le_refl _⟩, by repeat (first | exact Drawn0.refl _ | apply Drawn0.step)⟩
  case round =>
    clear H'; obtain ⟨x7_1, x8_1, rfl, rfl, HA, HK1, ⟨m1, rfl⟩⟩ := hrel; cases gk with
    | zero => exact absurd HA.out (by simp [spec_l5Pair.l0])
    | succ k1 =>
      have H := HA.out; clear HA; simp only [spec_l5Pair.l0] at H
      by_cases c4 : x8_1 < (l0.length : Int)
      · rw [if_pos c4] at H
        have c4b0 : decide (x8_1 < (l0.length : Int)) = true := decide_eq_true c4; clear c4; obtain ⟨c5, H⟩ := ifN H; have c5b0 : decide (0 ≤ x8_1) = true := decide_eq_true c5; clear c5; obtain ⟨c6, H⟩ := ifN H; have c6b0 : decide (x8_1 < (l1.length : Int)) = true := decide_eq_true c6; clear c6; obtain ⟨c7, H⟩ := ifN H; have c7b0 : decide (x8_1 < (l2.length : Int)) = true := decide_eq_true c7; clear c7; have H' := Aside0.mk H; clear H; have p483 : 0 ≤ (x8_1 : Int) := oD; have q483 : x8_1 < (l0.length : Int) := oD; obtain ⟨ad483, e483, hx483_0⟩ := Kd.at_int HR0.out x8_1 p483 q483; cases e483; replace p483 := eq_true p483; replace q483 := eq_true q483; have p484 : 0 ≤ (x8_1 : Int) := oD; have q484 : x8_1 < (l1.length : Int) := oD; obtain ⟨ad484, e484, hx484_0⟩ := Kd.at_int HR1.out x8_1 p484 q484; cases e484; replace p484 := eq_true p484; replace q484 := eq_true q484; have p485 : 0 ≤ (x8_1 : Int) := oD; have q485 : x8_1 < (l2.length : Int) := oD; obtain ⟨ad485, e485, hx485_0⟩ := Kd.at_int HR2.out x8_1 p485 q485; cases e485; replace p485 := eq_true p485; replace q485 := eq_true q485
        go_wp2
        repeat (go_quiet (fail); try go_wp2)
        go_roundg k1
        case measure => have := HK1.out; omega
        case rel => exact ⟨(wrap64 (x7_1 + (wrap64 ((wrap64 ((rd l0 x8_1) * (rd l1 x8_1))) * (rd l2 x8_1))))), (wrap64 (x8_1 + 1)), sR, sR, H', ⟨by have := HK1.out; omega⟩, by repeat (first | exact Drawn0.refl _ | apply Drawn0.step)⟩
      rw [if_neg c4] at H; have c4b0 : decide (x8_1 < (l0.length : Int)) = false := decide_eq_false c4; clear c4; obtain rfl := Option.some.inj H
      go_wp2
      repeat (go_quiet (fail); try go_wp2)
      go_ret
      exact ⟨by first | rfl | (simp; done) | (simp [*]; done), by repeat (first | exact Drawn0.refl _ | apply Drawn0.step)⟩

/-! ### spec_ConicOther: function 18 -/
mutual
def spec_ConicOther.j0 : Nat → List Int → List Int → List Int → Bool → Option (List Int × Bool)
  | 0, _, _, _, _ => none
  | k + 1, x0, x1, x2, x26 => if x26 = true then (some ((([] : List Int)), false)) else ((spec_l4Value.f k x0 x2).bind fun t492 => ((spec_l5Pair.f k x0 x1 x2).bind fun t493 => (spec_ConicOther.l0 k x0 x1 x2 t492 t493 (([] : List Int)) 0)))
def spec_ConicOther.l0 : Nat → List Int → List Int → List Int → Int → Int → List Int → Int → Option (List Int × Bool)
  | 0, _, _, _, _, _, _, _ => none
  | k + 1, x0, x1, x2, x8, x9, x10, x11 => if x11 < 3 then (if 0 ≤ x11 then (if x11 < (x1.length : Int) then (if x11 < (x2.length : Int) then (if x10.length < 17592186044416 then (spec_ConicOther.l0 k x0 x1 x2 x8 x9 (x10 ++ [wrap64 ((wrap64 (x8 * (rd x1 x11))) - (wrap64 ((wrap64 (2 * x9)) * (rd x2 x11))))]) (wrap64 (x11 + 1))) else (none)) else (none)) else (none)) else (none)) else ((spec_l5Plain.f k x10).bind fun t502 => ((spec_ZeroIs.f k x0 t502).bind fun t505 => (if t505 = true then (some (t502, true)) else (some ((([] : List Int)), false)))))
end
def spec_ConicOther.f (k : Nat) (l0 : List Int) (l1 : List Int) (l2 : List Int) : Option (List Int × Bool) := (spec_ConicPoint.f k l0 l1).bind fun t486 => (if t486 = true then ((spec_l4Vector.f k l0 l2 20).bind fun t487 => (if t487 = true then ((spec_l6kMultiple.f k l1 l2).bind fun t488 => (spec_ConicOther.j0 k l0 l1 l2 t488)) else (spec_ConicOther.j0 k l0 l1 l2 true))) else (spec_ConicOther.j0 k l0 l1 l2 true))
theorem spec_ConicOther.mono_l : ∀ k, (∀ y0 y1 y2 y3, LeO (spec_ConicOther.j0 k y0 y1 y2 y3) (spec_ConicOther.j0 (k + 1) y0 y1 y2 y3)) ∧ (∀ y0 y1 y2 y3 y4 y5 y6, LeO (spec_ConicOther.l0 k y0 y1 y2 y3 y4 y5 y6) (spec_ConicOther.l0 (k + 1) y0 y1 y2 y3 y4 y5 y6))
  | 0 => ⟨fun _ _ _ _ r h => by simp [spec_ConicOther.j0] at h, fun _ _ _ _ _ _ _ r h => by simp [spec_ConicOther.l0] at h⟩
  | k + 1 => by
    obtain ⟨ih0, ih1⟩ := spec_ConicOther.mono_l k
    refine ⟨?_, ?_⟩ <;> intros <;> (first | unfold spec_ConicOther.j0 | unfold spec_ConicOther.l0) <;> (repeat' first
      | (with_reducible exact ih0 _ _ _ _)
      | (with_reducible exact ih1 _ _ _ _ _ _ _)
      | (with_reducible exact spec_ConicPoint.mono _ _ _)
      | (with_reducible exact spec_ZeroIs.mono _ _ _)
      | (with_reducible exact spec_l4Value.mono _ _ _)
      | (with_reducible exact spec_l4Vector.mono _ _ _ _)
      | (with_reducible exact spec_l5Pair.mono _ _ _ _)
      | (with_reducible exact spec_l5Plain.mono _ _)
      | (with_reducible exact spec_l6kMultiple.mono _ _ _)
      | (with_reducible exact LeO.refl _)
      | (with_reducible exact LeO.none _)
      | (with_reducible refine LeO.ite ?_ ?_)
      | (with_reducible refine LeO.bind ?_ (fun _ => ?_))
      | exact ih0 _ _ _ _
      | exact ih1 _ _ _ _ _ _ _
      | exact spec_ConicPoint.mono _ _ _
      | exact spec_ZeroIs.mono _ _ _
      | exact spec_l4Value.mono _ _ _
      | exact spec_l4Vector.mono _ _ _ _
      | exact spec_l5Pair.mono _ _ _ _
      | exact spec_l5Plain.mono _ _
      | exact spec_l6kMultiple.mono _ _ _
      | exact LeO.none _
      | refine LeO.ite ?_ ?_
      | refine LeO.bind ?_ (fun _ => ?_))
theorem spec_ConicOther.mono : ∀ a0 a1 a2 k, LeO (spec_ConicOther.f k a0 a1 a2) (spec_ConicOther.f (k + 1) a0 a1 a2) := by
  intro a0 a1 a2 k
  obtain ⟨ih0, ih1⟩ := spec_ConicOther.mono_l k
  unfold spec_ConicOther.f
  repeat' first
      | (with_reducible exact ih0 _ _ _ _)
      | (with_reducible exact ih1 _ _ _ _ _ _ _)
      | (with_reducible exact spec_ConicPoint.mono _ _ _)
      | (with_reducible exact spec_ZeroIs.mono _ _ _)
      | (with_reducible exact spec_l4Value.mono _ _ _)
      | (with_reducible exact spec_l4Vector.mono _ _ _ _)
      | (with_reducible exact spec_l5Pair.mono _ _ _ _)
      | (with_reducible exact spec_l5Plain.mono _ _)
      | (with_reducible exact spec_l6kMultiple.mono _ _ _)
      | (with_reducible exact LeO.refl _)
      | (with_reducible exact LeO.none _)
      | (with_reducible refine LeO.ite ?_ ?_)
      | (with_reducible refine LeO.bind ?_ (fun _ => ?_))
      | exact ih0 _ _ _ _
      | exact ih1 _ _ _ _ _ _ _
      | exact spec_ConicPoint.mono _ _ _
      | exact spec_ZeroIs.mono _ _ _
      | exact spec_l4Value.mono _ _ _
      | exact spec_l4Vector.mono _ _ _ _
      | exact spec_l5Pair.mono _ _ _ _
      | exact spec_l5Plain.mono _ _
      | exact spec_l6kMultiple.mono _ _ _
      | exact LeO.none _
      | refine LeO.ite ?_ ?_
      | refine LeO.bind ?_ (fun _ => ?_)
def spec_ConicOther.T9 : Bool × List (List Nat × List Nat) := (true, [([], []), ([], []), ([], []), ([], []), ([2, 3], [2, 3]), ([4], [4]), ([1, 5], [1, 5]), ([], []), ([7], [7]), ([], []), ([], []), ([9, 10], [9, 10]), ([11], [11]), ([8, 12], [8, 12]), ([6, 13], [6, 13]), ([14], [14]), ([0, 15], [0, 15]), ([16, 16, 0, 1, 2, 3, 4, 5, 6, 7, 8, 9, 10, 11, 12, 13, 14, 15, 16], [0, 16])])
def spec_ConicOther.B9 : List Nat := [0, 0, 0, 0, 12, 28, 62, 0, 128, 0, 0, 1536, 3584, 8064, 16382, 32766, 65535, 131071]
theorem spec_ConicOther.tab9 : rtab .any (opsOf Try.f18 9) = spec_ConicOther.T9 := by kernel_rfl
theorem spec_ConicOther.bits9 : waitsOk spec_ConicOther.T9.2 spec_ConicOther.B9 = true := by kernel_rfl
set_option maxHeartbeats 8000000 in
set_option maxRecDepth 100000 in
theorem spec_ConicOther.calls (k : Nat) (A0 : Option Addr) (c0 : Nat) (l0 : List Int) (A1 : Option Addr) (c1 : Nat) (l1 : List Int) (A2 : Option Addr) (c2 : Nat) (l2 : List Int) (r1 : List Int) (r2 : Bool) (w : World) (hr0 : Kd.C (Kd.int .i64) w A0 l0.length l0) (hc0 : l0.length ≤ c0) (hr1 : Kd.C (Kd.int .i64) w A1 l1.length l1) (hc1 : l1.length ≤ c1) (hr2 : Kd.C (Kd.int .i64) w A2 l2.length l2) (hc2 : l2.length ≤ c2) (h : spec_ConicOther.f k l0 l1 l2 = some (r1, r2)) :
    Calls Try.prog 18 #[.slice A0 l0.length c0, .slice A1 l1.length c1, .slice A2 l2.length c2] w fun e w' => ∃ v0_ : Value, e = .returned (.tuple #[v0_, .bool r2]) ∧ Kd.R (Kd.int .i64) 3 w' w.heap.size (fun _ => True) v0_ r1 ∧ Below w.heap.size w w' := by
  have HR0 := Aside0.mk hr0; have HC0 := Aside0.mk hc0; clear hr0 hc0; have HR1 := Aside0.mk hr1; have HC1 := Aside0.mk hc1; clear hr1 hc1; have HR2 := Aside0.mk hr2; have HC2 := Aside0.mk hc2; clear hr2 hc2; have HB := Aside0.mk (Below.refl w.heap.size w); unfold spec_ConicOther.f at h; have H := h; clear h; have HC4 := Aside0.mk H; clear H; go_enter Try.func18, Try.ntmps18
  go_upto_region 1 with (fail)
  go_cut [26] (fun v26 wc => ∃ (kq : Nat) (x26_3 : Bool), v26 = .bool x26_3 ∧ Aside0 (spec_ConicOther.j0 kq l0 l1 l2 x26_3 = some (r1, r2)) ∧ Aside0 (kq ≤ k) ∧ Aside0 (Below w.heap.size w wc))
  case first =>
    have H := HC4.out; clear HC4; obtain ⟨t486, A5, H⟩ := bnd H
    by_cases c6 : t486 = true
    · subst c6
      replace H := ifT H; obtain ⟨t487, A7, H⟩ := bnd H
      by_cases c8 : t487 = true
      · subst c8
        replace H := ifT H; obtain ⟨t488, A9, H⟩ := bnd H; have H' := Aside0.mk H; clear H
        go_wp2_with (first | ((with_reducible refine gate_callee (f := 10) rfl ?_); refine goesK (some 14) Try.func10 #[.slice A0 l0.length c0, .slice A1 l1.length c1] ?_; (with_reducible refine (spec_ConicPoint.calls k _ _ l0 _ _ l1 true _ ?side1 ?side2 ?side3 ?side4 A5.out).mono ?_); (case side1 => exact U (Kd.C_below HR0.out HB.out)); (case side2 => exact HC0.out); (case side3 => exact U (Kd.C_below HR1.out HB.out)); (case side4 => exact HC1.out); rintro e w10 ⟨rfl, hb⟩; refine ⟨_, rfl, ?_⟩; replace HB := BS hb; (try clear hb)) | (go_at_call 44; (with_reducible refine (spec_l4Vector.calls k _ _ l0 _ _ l2 20 true _ ?side1 ?side2 ?side3 ?side4 A7.out).mono ?_); (case side1 => exact U (Kd.C_below HR0.out HB.out)); (case side2 => exact HC0.out); (case side3 => exact U (Kd.C_below HR2.out HB.out)); (case side4 => exact HC2.out); rintro e w' ⟨rfl, ⟨nd, rfl⟩⟩) | (go_at_call 45; (with_reducible refine (spec_l6kMultiple.calls k _ _ l1 _ _ l2 t488 _ ?side1 ?side2 ?side3 ?side4 A9.out).mono ?_); (case side1 => exact U (Kd.C_below HR1.out BU)); (case side2 => exact HC1.out); (case side3 => exact U (Kd.C_below HR2.out BU)); (case side4 => exact HC2.out); rintro e w' ⟨rfl, ⟨nd, rfl⟩⟩))
        go_meet
        case rel => exact ⟨_, (t488), sR, H', ⟨oR⟩, ⟨BU⟩⟩
      replace c8 := Bool.eq_false_iff.mpr c8; subst c8; replace H := ifF H; have H' := Aside0.mk H; clear H
      go_wp2_with (first | ((with_reducible refine gate_callee (f := 10) rfl ?_); refine goesK (some 14) Try.func10 #[.slice A0 l0.length c0, .slice A1 l1.length c1] ?_; (with_reducible refine (spec_ConicPoint.calls k _ _ l0 _ _ l1 true _ ?side1 ?side2 ?side3 ?side4 A5.out).mono ?_); (case side1 => exact U (Kd.C_below HR0.out HB.out)); (case side2 => exact HC0.out); (case side3 => exact U (Kd.C_below HR1.out HB.out)); (case side4 => exact HC1.out); rintro e w11 ⟨rfl, hb⟩; refine ⟨_, rfl, ?_⟩; replace HB := BS hb; (try clear hb)) | (go_at_call 44; (with_reducible refine (spec_l4Vector.calls k _ _ l0 _ _ l2 20 false _ ?side1 ?side2 ?side3 ?side4 A7.out).mono ?_); (case side1 => exact U (Kd.C_below HR0.out HB.out)); (case side2 => exact HC0.out); (case side3 => exact U (Kd.C_below HR2.out HB.out)); (case side4 => exact HC2.out); rintro e w' ⟨rfl, ⟨nd, rfl⟩⟩))
      go_meet
      case rel => exact ⟨_, (true), sR, H', ⟨oR⟩, ⟨BU⟩⟩
    replace c6 := Bool.eq_false_iff.mpr c6; subst c6; replace H := ifF H; have H' := Aside0.mk H; clear H
    go_wp2_with (first | ((with_reducible refine gate_callee (f := 10) rfl ?_); refine goesK (some 14) Try.func10 #[.slice A0 l0.length c0, .slice A1 l1.length c1] ?_; (with_reducible refine (spec_ConicPoint.calls k _ _ l0 _ _ l1 false _ ?side1 ?side2 ?side3 ?side4 A5.out).mono ?_); (case side1 => exact U (Kd.C_below HR0.out HB.out)); (case side2 => exact HC0.out); (case side3 => exact U (Kd.C_below HR1.out HB.out)); (case side4 => exact HC1.out); rintro e w12 ⟨rfl, hb⟩; refine ⟨_, rfl, ?_⟩; replace HB := BS hb; (try clear hb)))
    go_meet
    case rel => exact ⟨_, (true), sR, H', ⟨oR⟩, ⟨BU⟩⟩
  case rest =>
    clear HC4; obtain ⟨kq, x26_3, rfl, HA, HJ3, HB⟩ := hcut; cases kq with
    | zero => exact absurd HA.out (by simp [spec_ConicOther.j0])
    | succ kj3 =>
      have H := HA.out; clear HA; simp only [spec_ConicOther.j0] at H
      by_cases c13 : x26_3 = true
      · subst c13
        replace H := ifT H; obtain ⟨y489, hy489⟩ : ∃ y_ : List Int, y_ = (([] : List Int)) := ⟨_, rfl⟩; replace H : (some (y489, false)) = some (r1, r2) := rH hy489 H; have Ny489 := Aside0.mk hy489; clear hy489; simp only [Option.some.injEq, Prod.mk.injEq] at H; obtain ⟨rfl, rfl⟩ := H
        go_wp2_with (first | ((with_reducible refine gate_dst (N := 27) rfl ?_); refine Kd.R_lit (Kd.int .i64) _ 3 ?hg (N := 27) ?hd (xs := ([] : List Int)) (inner := []) (ok := fun _ => True) (okp := fun _ => True) ?hr ?hp (fun _ hk => hk) trivial (Below.refl _ _) (Nat.le_refl _) (by simp) ?_; (case hd => rfl); (case hg => rfl); (case hr => first | (go_simp; done) | (go_simp; rfl)); (case hp => exact (Reps.none _ _)); intro v490 w14 ho15 hb hg_ hnew_; clear hg_ hnew_; (first | rw [← Ny489.out] at ho15 | (simp only [Int.reduceToNat] at ho15; rw [← Ny489.out] at ho15)); have HO491 := Aside0.mk (Kd.R_lower ho15 (below_size BU)); replace HB := BS hb; clear hb ho15))
        go_ret2
        exact ⟨_, eR, U HO491.out, BU⟩
      replace c13 := Bool.eq_false_iff.mpr c13; subst c13; replace H := ifF H; obtain ⟨t492, A16, H⟩ := bnd H; obtain ⟨t493, A17, H⟩ := bnd H; obtain ⟨y494, hy494⟩ : ∃ y_ : List Int, y_ = (([] : List Int)) := ⟨_, rfl⟩; replace H : (spec_ConicOther.l0 kj3 l0 l1 l2 t492 t493 y494 0) = some (r1, r2) := rH hy494 H; have Ny494 := Aside0.mk hy494; clear hy494; have H' := Aside0.mk H; clear H
      go_wp2_with (first | ((with_reducible refine gate_callee (f := 46) rfl ?_); refine goesK (some 30) Try.func46 #[.slice A0 l0.length c0, .slice A2 l2.length c2] ?_; (with_reducible refine (spec_l4Value.calls kj3 _ _ l0 _ _ l2 t492 _ ?side1 ?side2 ?side3 ?side4 A16.out).mono ?_); (case side1 => exact U (Kd.C_below HR0.out HB.out)); (case side2 => exact HC0.out); (case side3 => exact U (Kd.C_below HR2.out HB.out)); (case side4 => exact HC2.out); rintro e w' ⟨rfl, ⟨nd, rfl⟩⟩; refine ⟨_, rfl, ?_⟩) | ((with_reducible refine gate_callee (f := 47) rfl ?_); refine goesK (some 34) Try.func47 #[.slice A0 l0.length c0, .slice A1 l1.length c1, .slice A2 l2.length c2] ?_; (with_reducible refine (spec_l5Pair.calls kj3 _ _ l0 _ _ l1 _ _ l2 t493 _ ?side1 ?side2 ?side3 ?side4 ?side5 ?side6 A17.out).mono ?_); (case side1 => exact U (Kd.C_below HR0.out BU)); (case side2 => exact HC0.out); (case side3 => exact U (Kd.C_below HR1.out BU)); (case side4 => exact HC1.out); (case side5 => exact U (Kd.C_below HR2.out BU)); (case side6 => exact HC2.out); rintro e w' ⟨rfl, ⟨nd, rfl⟩⟩; refine ⟨_, rfl, ?_⟩) | ((with_reducible refine gate_dst (N := 35) rfl ?_); refine Kd.R_lit (Kd.int .i64) _ 3 ?hg (N := 35) ?hd (xs := ([] : List Int)) (inner := []) (ok := fun _ => True) (okp := fun _ => True) ?hr ?hp (fun _ hk => hk) trivial (Below.refl _ _) (Nat.le_refl _) (by simp) ?_; (case hd => rfl); (case hg => rfl); (case hr => first | (go_simp; done) | (go_simp; rfl)); (case hp => exact (Reps.none _ _)); intro v495 w18 ho19 hb hg_ hnew_; clear hg_ hnew_; (first | rw [← Ny494.out] at ho19 | (simp only [Int.reduceToNat] at ho19; rw [← Ny494.out] at ho19)); have HO496 := Aside0.mk (Kd.R_lower ho19 (below_size BU)); replace HB := BS hb; clear hb ho19))
      go_loopg [10, 11] kj3 (fun kq v10 v11 w' => ∃ (x10_2 : List Int) (x11_2 : Int), v11 = .int .i64 x11_2 ∧ Aside0 (spec_ConicOther.l0 kq l0 l1 l2 t492 t493 x10_2 x11_2 = some (r1, r2)) ∧ Aside0 (kq ≤ kj3) ∧ Aside0 (Kd.R (Kd.int .i64) 3 w' w.heap.size (fun _ => True) v10 x10_2) ∧ Aside0 (Below w.heap.size w w'))
      case atStart => exact ⟨(y494), (0), sR, H', ⟨Nat.le_refl _⟩, ⟨U HO496.out⟩, ⟨BU⟩⟩
      case round =>
        clear H'; (try clear c1); (try clear c2); (try clear c13); obtain ⟨x10_2, x11_2, rfl, HA, HK2, HO_10, HB⟩ := hrel; cases gk with
        | zero => exact absurd HA.out (by simp [spec_ConicOther.l0])
        | succ k2 =>
          have H := HA.out; clear HA; simp only [spec_ConicOther.l0] at H
          by_cases c20 : x11_2 < 3
          · rw [if_pos c20] at H
            have c20b0 : decide (x11_2 < 3) = true := decide_eq_true c20; clear c20; obtain ⟨c21, H⟩ := ifN H; have c21b0 : decide (0 ≤ x11_2) = true := decide_eq_true c21; clear c21; obtain ⟨c22, H⟩ := ifN H; have c22b0 : decide (x11_2 < (l1.length : Int)) = true := decide_eq_true c22; clear c22; obtain ⟨c23, H⟩ := ifN H; have c23b0 : decide (x11_2 < (l2.length : Int)) = true := decide_eq_true c23; clear c23; obtain ⟨c24, H⟩ := ifN H; have LMc24 := Aside0.mk c24; clear c24; obtain ⟨y499, hy499⟩ : ∃ y_ : List Int, y_ = (x10_2 ++ [wrap64 ((wrap64 (t492 * (rd l1 x11_2))) - (wrap64 ((wrap64 (2 * t493)) * (rd l2 x11_2))))]) := ⟨_, rfl⟩; replace H : (spec_ConicOther.l0 k2 l0 l1 l2 t492 t493 y499 (wrap64 (x11_2 + 1))) = some (r1, r2) := rH hy499 H; have Ny499 := Aside0.mk hy499; clear hy499; have H' := Aside0.mk H; clear H
            try go_wp2
            replace HO_10 := Aside0.mk (Kd.R_drew HO_10.out); replace HB := Aside0.mk (below_drew1 HB.out); have p497 : 0 ≤ (x11_2 : Int) := oD; have q497 : x11_2 < (l1.length : Int) := oD; obtain ⟨ad497, e497, hx497_0⟩ := Kd.at_int HR1.out x11_2 p497 q497; have hw497_0 := hx497_0; cases e497; replace hx497_0 := (HB.out.cell (World.block_lt_of_cell? w _ hx497_0)).trans hx497_0; replace p497 := eq_true p497; replace q497 := eq_true q497; have p498 : 0 ≤ (x11_2 : Int) := oD; have q498 : x11_2 < (l2.length : Int) := oD; obtain ⟨ad498, e498, hx498_0⟩ := Kd.at_int HR2.out x11_2 p498 q498; have hw498_0 := hx498_0; cases e498; replace hx498_0 := (HB.out.cell (World.block_lt_of_cell? w _ hx498_0)).trans hx498_0; replace p498 := eq_true p498; replace q498 := eq_true q498
            refine start_ (n := 18) (S := fun w' => w'.cell? (ad497.add (x11_2).toNat) = some (.int .i64 (rd l1 x11_2)) ∧ w'.cell? (ad498.add (x11_2).toNat) = some (.int .i64 (rd l2 x11_2))) (ds := []) #[false, false, false, false, false, false, false, false, false, false, false, false, false, false, false, false, false, false] (by kernel_rfl) rfl rfl ⟨((HB.out.cell (World.block_lt_of_cell? w _ hw497_0)).trans hw497_0), ((HB.out.cell (World.block_lt_of_cell? w _ hw498_0)).trans hw498_0)⟩ (fun hHeld => ?_); refine with_tabW spec_ConicOther.tab9 spec_ConicOther.bits9 (fun HT_ HW_ => ?_)
            generalize wr.drew = w25 at HO_10 HB hx497_0 hx498_0 hHeld ⊢
            refine pure_ (i := 0) (N := some 40) (v := ?_) (a' := ?_) #[true, false, false, false, false, false, false, false, false, false, false, false, false, false, false, false, false, false] rfl rfl (any_of HT_.out (by kernel_rfl)) (fun _ _ _ h => h) (Or.inl ⟨by rfl, ?_⟩) ?_ ?_
            rotate_left
            · intro w'
              go_simp
              with_reducible rfl
            rotate_left
            · simp only [Act.put, List.setIfInBounds_toArray, List.set_cons_zero, List.set_cons_succ, i64_w, i32_w]
              rfl
            refine pure_ (i := 1) (N := some 41) (v := ?_) (a' := ?_) #[true, true, false, false, false, false, false, false, false, false, false, false, false, false, false, false, false, false] rfl rfl (any_of HT_.out (by kernel_rfl)) (fun _ _ _ h => h) (Or.inl ⟨by rfl, ?_⟩) ?_ ?_
            rotate_left
            · intro w'
              go_simp
              with_reducible rfl
            rotate_left
            · simp only [Act.put, List.setIfInBounds_toArray, List.set_cons_zero, List.set_cons_succ, i64_w, i32_w]
              rfl
            refine pure_ (i := 2) (N := some 42) (v := ?_) (a' := ?_) #[true, true, true, false, false, false, false, false, false, false, false, false, false, false, false, false, false, false] rfl rfl (any_of HT_.out (by kernel_rfl)) (fun _ _ _ h => h) (Or.inl ⟨by rfl, ?_⟩) ?_ ?_
            rotate_left
            · intro w'
              go_simp
              with_reducible rfl
            rotate_left
            · simp only [Act.put, List.setIfInBounds_toArray, List.set_cons_zero, List.set_cons_succ, i64_w, i32_w]
              rfl
            refine pure_ (i := 3) (N := some 43) (v := ?_) (a' := ?_) #[true, true, true, true, false, false, false, false, false, false, false, false, false, false, false, false, false, false] rfl rfl (any_of HT_.out (by kernel_rfl)) (fun _ _ _ h => h) (Or.inl ⟨by rfl, ?_⟩) ?_ ?_
            rotate_left
            · intro w'
              go_simp
              with_reducible rfl
            rotate_left
            · simp only [Act.put, List.setIfInBounds_toArray, List.set_cons_zero, List.set_cons_succ, i64_w, i32_w]
              rfl
            refine pure_ (i := 4) (N := some 44) (v := ?_) (a' := ?_) #[true, true, true, true, true, false, false, false, false, false, false, false, false, false, false, false, false, false] rfl rfl (any_of HT_.out (by kernel_rfl)) (fun _ _ _ h => h) (Or.inl ⟨by rfl, ?_⟩) ?_ ?_
            rotate_left
            · intro w'
              go_simp
              with_reducible rfl
            rotate_left
            · simp only [Act.put, List.setIfInBounds_toArray, List.set_cons_zero, List.set_cons_succ, i64_w, i32_w]
              rfl
            refine pure_ (i := 7) (N := some 47) (v := ?_) (a' := ?_) #[true, true, true, true, true, false, false, true, false, false, false, false, false, false, false, false, false, false] rfl rfl (any_of HT_.out (by kernel_rfl)) (fun _ _ _ h => h) (Or.inl ⟨by rfl, ?_⟩) ?_ ?_
            rotate_left
            · intro w'
              go_simp
              with_reducible rfl
            rotate_left
            · simp only [Act.put, List.setIfInBounds_toArray, List.set_cons_zero, List.set_cons_succ, i64_w, i32_w]
              rfl
            refine pure_ (i := 8) (N := some 48) (v := ?_) (a' := ?_) #[true, true, true, true, true, false, false, true, true, false, false, false, false, false, false, false, false, false] rfl rfl (any_of HT_.out (by kernel_rfl)) (fun _ _ _ h => h) (Or.inl ⟨by rfl, ?_⟩) ?_ ?_
            rotate_left
            · intro w'
              go_simp
              with_reducible rfl
            rotate_left
            · simp only [Act.put, List.setIfInBounds_toArray, List.set_cons_zero, List.set_cons_succ, i64_w, i32_w]
              rfl
            refine pure_ (i := 9) (N := some 49) (v := ?_) (a' := ?_) #[true, true, true, true, true, false, false, true, true, true, false, false, false, false, false, false, false, false] rfl rfl (any_of HT_.out (by kernel_rfl)) (fun _ _ _ h => h) (Or.inl ⟨by rfl, ?_⟩) ?_ ?_
            rotate_left
            · intro w'
              go_simp
              with_reducible rfl
            rotate_left
            · simp only [Act.put, List.setIfInBounds_toArray, List.set_cons_zero, List.set_cons_succ, i64_w, i32_w]
              rfl
            refine pure_ (i := 10) (N := some 50) (v := ?_) (a' := ?_) #[true, true, true, true, true, false, false, true, true, true, true, false, false, false, false, false, false, false] rfl rfl (any_of HT_.out (by kernel_rfl)) (fun _ _ _ h => h) (Or.inl ⟨by rfl, ?_⟩) ?_ ?_
            rotate_left
            · intro w'
              go_simp
              with_reducible rfl
            rotate_left
            · simp only [Act.put, List.setIfInBounds_toArray, List.set_cons_zero, List.set_cons_succ, i64_w, i32_w]
              rfl
            refine pure_ (i := 11) (N := some 51) (v := ?_) (a' := ?_) #[true, true, true, true, true, false, false, true, true, true, true, true, false, false, false, false, false, false] rfl rfl (any_of HT_.out (by kernel_rfl)) (fun _ _ _ h => h) (Or.inl ⟨by rfl, ?_⟩) ?_ ?_
            rotate_left
            · intro w'
              go_simp
              with_reducible rfl
            rotate_left
            · simp only [Act.put, List.setIfInBounds_toArray, List.set_cons_zero, List.set_cons_succ, i64_w, i32_w]
              rfl
            refine take_ (i := 5) (N := some 45) (v := ?_) (a' := ?_) #[true, true, true, true, true, true, false, true, true, true, true, true, false, false, false, false, false, false] rfl rfl (take_ofW HT_.out HW_.out (by kernel_rfl)) (fun _ _ _ h => h) (Or.inl ⟨by rfl, ?_⟩) hHeld ?_ ?_
            rotate_left
            · rintro w' ⟨s0, s1⟩
              go_simp
              with_reducible rfl
            rotate_left
            · simp only [Act.put, List.setIfInBounds_toArray, List.set_cons_zero, List.set_cons_succ, i64_w, i32_w]
              rfl
            refine pure_ (i := 6) (N := some 46) (v := ?_) (a' := ?_) #[true, true, true, true, true, true, true, true, true, true, true, true, false, false, false, false, false, false] rfl rfl (any_of HT_.out (by kernel_rfl)) (fun _ _ _ h => h) (Or.inl ⟨by rfl, ?_⟩) ?_ ?_
            rotate_left
            · intro w'
              go_simp
              with_reducible rfl
            rotate_left
            · simp only [Act.put, List.setIfInBounds_toArray, List.set_cons_zero, List.set_cons_succ, i64_w, i32_w]
              rfl
            refine take_ (i := 12) (N := some 52) (v := ?_) (a' := ?_) #[true, true, true, true, true, true, true, true, true, true, true, true, true, false, false, false, false, false] rfl rfl (take_ofW HT_.out HW_.out (by kernel_rfl)) (fun _ _ _ h => h) (Or.inl ⟨by rfl, ?_⟩) hHeld ?_ ?_
            rotate_left
            · rintro w' ⟨s0, s1⟩
              go_simp
              with_reducible rfl
            rotate_left
            · simp only [Act.put, List.setIfInBounds_toArray, List.set_cons_zero, List.set_cons_succ, i64_w, i32_w]
              rfl
            refine pure_ (i := 13) (N := some 53) (v := ?_) (a' := ?_) #[true, true, true, true, true, true, true, true, true, true, true, true, true, true, false, false, false, false] rfl rfl (any_of HT_.out (by kernel_rfl)) (fun _ _ _ h => h) (Or.inl ⟨by rfl, ?_⟩) ?_ ?_
            rotate_left
            · intro w'
              go_simp
              with_reducible rfl
            rotate_left
            · simp only [Act.put, List.setIfInBounds_toArray, List.set_cons_zero, List.set_cons_succ, i64_w, i32_w]
              rfl
            refine pure_ (i := 14) (N := some 54) (v := ?_) (a' := ?_) #[true, true, true, true, true, true, true, true, true, true, true, true, true, true, true, false, false, false] rfl rfl (any_of HT_.out (by kernel_rfl)) (fun _ _ _ h => h) (Or.inl ⟨by rfl, ?_⟩) ?_ ?_
            rotate_left
            · intro w'
              go_simp
              with_reducible rfl
            rotate_left
            · simp only [Act.put, List.setIfInBounds_toArray, List.set_cons_zero, List.set_cons_succ, i64_w, i32_w]
              rfl
            refine one_ (i := 15) (N := some 55) #[true, true, true, true, true, true, true, true, true, true, true, true, true, true, true, true, false, false] rfl rfl (one_of HT_.out (by kernel_rfl)) (by decide) (fun K hK => ?_)
            refine value_ (w1 := ?_) (v := ?_) (by rfl) rfl ?_ ?_
            rotate_left 2
            · go_simp
              constructor
              · rfl
              rfl
            refine hK.out _ _ ⟨(World.cell?_alloc_lt _ _ _ (World.block_lt_of_cell? _ _ (((HB.out.cell (World.block_lt_of_cell? w _ hw497_0)).trans hw497_0)))).trans (((HB.out.cell (World.block_lt_of_cell? w _ hw497_0)).trans hw497_0)), (World.cell?_alloc_lt _ _ _ (World.block_lt_of_cell? _ _ (((HB.out.cell (World.block_lt_of_cell? w _ hw498_0)).trans hw498_0)))).trans (((HB.out.cell (World.block_lt_of_cell? w _ hw498_0)).trans hw498_0))⟩ (fun hHeld => ?_)
            clear hK K
            refine norm_ (a' := ?_) ?_ ?_
            rotate_left
            · show Act.put _ (some 55) _ = _
              simp only [Act.put, List.setIfInBounds_toArray, List.set_cons_zero, List.set_cons_succ, i64_w, i32_w]
              rfl
            refine one_ (i := 16) (N := some 56) #[true, true, true, true, true, true, true, true, true, true, true, true, true, true, true, true, true, false] rfl rfl (one_of HT_.out (by kernel_rfl)) (by decide) (fun K hK => ?_)
            refine Kd.R_append_step (Kd.int .i64) (w0 := w) w.heap.size (by rfl) (.tmp 40) (.tmp 55) 23 3 (.int .i64 0) 8 rfl Try.underlying23 info3 rfl (by decide) (by omega) u10 x10_2 (wrap64 ((wrap64 (t492 * (rd l1 x11_2))) - (wrap64 ((wrap64 (2 * t493)) * (rd l2 x11_2))))) [.int .i64 (wrap64 ((wrap64 (t492 * (rd l1 x11_2))) - (wrap64 ((wrap64 (2 * t493)) * (rd l2 x11_2)))))] (fun _ => True) (fun _ => False) rfl rfl ?aP (fun _ hk => hk.elim) ?aF ?aO ?aB ?aS ?aL ?_
            (case aP => exact rfl)
            (case aB => exact BU)
            (case aF => exact (fun _ _ => trivial))
            (case aO => exact (U HO_10.out))
            (case aS => exact (below_size BU))
            (case aL => have := LMc24.out; omega)
            intro v500 w26 ho hb hg hat; rw [← Ny499.out] at ho; have n0_ := Aside0.mk (hb); have n1_ := Aside0.mk (ho); (try clear HB); clear HO_10; have HB := n0_; have HO501 := n1_; clear n0_ n1_ ho hb hg hat
            refine hK.out _ _ ⟨((HB.out.cell (World.block_lt_of_cell? w _ hw497_0)).trans hw497_0), ((HB.out.cell (World.block_lt_of_cell? w _ hw498_0)).trans hw498_0)⟩ (fun hHeld => ?_)
            clear hK K
            refine norm_ (a' := ?_) ?_ ?_
            rotate_left
            · show Act.put _ (some 56) _ = _
              simp only [Act.put, List.setIfInBounds_toArray, List.set_cons_zero, List.set_cons_succ, i64_w, i32_w]
              rfl
            refine pure_ (i := 17) (N := some 10) (v := ?_) (a' := ?_) #[true, true, true, true, true, true, true, true, true, true, true, true, true, true, true, true, true, true] rfl rfl (any_of HT_.out (by kernel_rfl)) (fun _ _ _ h => h) (Or.inl ⟨by rfl, ?_⟩) ?_ ?_
            rotate_left
            · intro w'
              go_simp
              with_reducible rfl
            rotate_left
            · simp only [Act.put, List.setIfInBounds_toArray, List.set_cons_zero, List.set_cons_succ, i64_w, i32_w]
              rfl
            refine done_ (done_of HT_.out (by kernel_rfl)) ?_
            try go_wp2
            go_roundg k2
            case measure => have := HJ3.out; have := HK2.out; omega
            case rel => exact ⟨(y499), (wrap64 (x11_2 + 1)), sR, H', ⟨by have := HJ3.out; have := HK2.out; omega⟩, ⟨U HO501.out⟩, ⟨BU⟩⟩
          rw [if_neg c20] at H; have c20b0 : decide (x11_2 < 3) = false := decide_eq_false c20; clear c20; obtain ⟨t502, A27, H⟩ := bnd H; obtain ⟨t505, A28, H⟩ := bnd H
          by_cases c29 : t505 = true
          · subst c29
            replace H := ifT H; simp only [Option.some.injEq, Prod.mk.injEq] at H; obtain ⟨rfl, rfl⟩ := H; obtain ⟨Ao30, co30, eo30⟩ := Kd.R_slice HO_10.out; subst eo30
            go_wp2_with (first | ((with_reducible refine gate_callee (f := 48) rfl ?_); refine goesK (some 58) Try.func48 #[.slice Ao30 x10_2.length co30] ?_; (with_reducible refine (spec_l5Plain.calls k2 _ _ x10_2 t502 _ ?side1 ?side2 A27.out).mono ?_); (case side1 => exact U ((Kd.R_reads' HO_10.out).2.2)); (case side2 => exact (Kd.R_reads' HO_10.out).2.1); rintro e w31 ⟨v503, rfl, ho0, hb⟩; refine ⟨_, rfl, ?_⟩; have HO504 := Aside0.mk (Kd.R_lower (Kd.R_new' ho0 (Kd.R_lt (U HO_10.out))) (below_size BU)); replace HO_10 := Aside0.mk (Kd.R_elder' (U HO_10.out) (Kd.R_base ho0) hb); replace HB := BS hb; (try clear hb); (try clear ho0); obtain ⟨Ao32, co32, eo32⟩ := Kd.R_slice HO504.out; subst eo32) | ((with_reducible refine gate_callee (f := 34) rfl ?_); refine goesK (some 61) Try.func34 #[.slice A0 l0.length c0, .slice Ao32 t502.length co32] ?_; (with_reducible refine (spec_ZeroIs.calls k2 _ _ l0 _ _ t502 true _ ?side1 ?side2 ?side3 ?side4 A28.out).mono ?_); (case side1 => exact U (Kd.C_below HR0.out HB.out)); (case side2 => exact HC0.out); (case side3 => exact U ((Kd.R_reads' HO504.out).2.2)); (case side4 => exact (Kd.R_reads' HO504.out).2.1); rintro e w' ⟨rfl, ⟨nd, rfl⟩⟩; refine ⟨_, rfl, ?_⟩))
            go_ret2
            exact ⟨_, eR, Kd.RM HO504.out (fun _ hk => trivial), BU⟩
          replace c29 := Bool.eq_false_iff.mpr c29; subst c29; replace H := ifF H; obtain ⟨y506, hy506⟩ : ∃ y_ : List Int, y_ = (([] : List Int)) := ⟨_, rfl⟩; replace H : (some (y506, false)) = some (r1, r2) := rH hy506 H; have Ny506 := Aside0.mk hy506; clear hy506; simp only [Option.some.injEq, Prod.mk.injEq] at H; obtain ⟨rfl, rfl⟩ := H; obtain ⟨Ao33, co33, eo33⟩ := Kd.R_slice HO_10.out; subst eo33
          go_wp2_with (first | ((with_reducible refine gate_callee (f := 48) rfl ?_); refine goesK (some 58) Try.func48 #[.slice Ao33 x10_2.length co33] ?_; (with_reducible refine (spec_l5Plain.calls k2 _ _ x10_2 t502 _ ?side1 ?side2 A27.out).mono ?_); (case side1 => exact U ((Kd.R_reads' HO_10.out).2.2)); (case side2 => exact (Kd.R_reads' HO_10.out).2.1); rintro e w34 ⟨v503, rfl, ho0, hb⟩; refine ⟨_, rfl, ?_⟩; have HO504 := Aside0.mk (Kd.R_lower (Kd.R_new' ho0 (Kd.R_lt (U HO_10.out))) (below_size BU)); replace HO_10 := Aside0.mk (Kd.R_elder' (U HO_10.out) (Kd.R_base ho0) hb); replace HB := BS hb; (try clear hb); (try clear ho0); obtain ⟨Ao35, co35, eo35⟩ := Kd.R_slice HO504.out; subst eo35) | ((with_reducible refine gate_callee (f := 34) rfl ?_); refine goesK (some 61) Try.func34 #[.slice A0 l0.length c0, .slice Ao35 t502.length co35] ?_; (with_reducible refine (spec_ZeroIs.calls k2 _ _ l0 _ _ t502 false _ ?side1 ?side2 ?side3 ?side4 A28.out).mono ?_); (case side1 => exact U (Kd.C_below HR0.out HB.out)); (case side2 => exact HC0.out); (case side3 => exact U ((Kd.R_reads' HO504.out).2.2)); (case side4 => exact (Kd.R_reads' HO504.out).2.1); rintro e w' ⟨rfl, ⟨nd, rfl⟩⟩; refine ⟨_, rfl, ?_⟩) | ((with_reducible refine gate_dst (N := 63) rfl ?_); refine Kd.R_lit (Kd.int .i64) _ 3 ?hg (N := 63) ?hd (xs := ([] : List Int)) (inner := []) (ok := fun _ => True) (okp := fun _ => True) ?hr ?hp (fun _ hk => hk) trivial (Below.refl _ _) (Nat.le_refl _) (by simp) ?_; (case hd => rfl); (case hg => rfl); (case hr => first | (go_simp; done) | (go_simp; rfl)); (case hp => exact (Reps.none _ _)); intro v507 w36 ho37 hb hg_ hnew_; clear hg_ hnew_; (first | rw [← Ny506.out] at ho37 | (simp only [Int.reduceToNat] at ho37; rw [← Ny506.out] at ho37)); have HO508 := Aside0.mk (Kd.R_lower (Kd.R_new' (Kd.R_new' ho37 (Kd.R_lt (U HO_10.out))) (Kd.R_lt (U HO504.out))) (below_size BU)); replace HO_10 := Aside0.mk (Kd.R_elder' (U HO_10.out) (Kd.R_base ho37) hb); replace HO504 := Aside0.mk (Kd.R_elder' (U HO504.out) (Kd.R_base ho37) hb); replace HB := BS hb; clear hb ho37))
          go_ret2
          exact ⟨_, eR, Kd.RM HO508.out (fun _ hk => trivial), BU⟩

end Go.Proofs.Ytpaohkhmhdhibaa.PFnConicMany
