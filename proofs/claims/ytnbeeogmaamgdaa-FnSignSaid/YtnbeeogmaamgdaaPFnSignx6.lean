-- Written by a program of this session (wip/print2.py): the functions that the law reaches, plain, and the walks.
import Derived.Test.YtnbeeogmaamgdaaPFnSignx0
import Derived.Test.YtnbeeogmaamgdaaPFnSignx2
namespace Go.Proofs.Ytnbeeogmaamgdaa.PFnSign
open Go.RowKit Go.Proofs.YtnbeeogmaamgdaaW.PrintWords Go.Proofs.YtnbeeogmaamgdaaW.PrintLast Go.Proofs.YtnbeeogmaamgdaaW.PrintMore
attribute [local go_sem] max2_int min2_int max_two min_two max_three min_three max_four min_four   -- for this text's walks alone
set_option linter.unusedVariables false
set_option linter.unusedSimpArgs false

/-! ### impl_determinantSign: function 62 -/
def impl_determinantSign.l0 : Nat → List (List Int) → Int → Int → Option (Int)
  | 0, _, _, _ => none
  | k + 1, x0, x3, x41 => if x41 < 3 then (if 0 < (x0.length : Int) then (if 0 ≤ x41 then (if x41 < ((rd_L1 x0 0).length : Int) then (if 1 < (x0.length : Int) then (if 0 ≤ (Int.tmod (wrap64 (x41 + 1)) 3) then (if (Int.tmod (wrap64 (x41 + 1)) 3) < ((rd_L1 x0 1).length : Int) then (if 2 < (x0.length : Int) then (if 0 ≤ (Int.tmod (wrap64 (x41 + 2)) 3) then (if (Int.tmod (wrap64 (x41 + 2)) 3) < ((rd_L1 x0 2).length : Int) then (if (Int.tmod (wrap64 (x41 + 2)) 3) < ((rd_L1 x0 1).length : Int) then (if (Int.tmod (wrap64 (x41 + 1)) 3) < ((rd_L1 x0 2).length : Int) then (impl_determinantSign.l0 k x0 (wrap64 (x3 + (wrap64 ((rd (rd_L1 x0 0) x41) * (wrap64 ((wrap64 ((rd (rd_L1 x0 1) (Int.tmod (wrap64 (x41 + 1)) 3)) * (rd (rd_L1 x0 2) (Int.tmod (wrap64 (x41 + 2)) 3)))) - (wrap64 ((rd (rd_L1 x0 1) (Int.tmod (wrap64 (x41 + 2)) 3)) * (rd (rd_L1 x0 2) (Int.tmod (wrap64 (x41 + 1)) 3)))))))))) (wrap64 (x41 + 1))) else (none)) else (none)) else (none)) else (none)) else (none)) else (none)) else (none)) else (none)) else (none)) else (none)) else (none)) else (some x3)
def impl_determinantSign.f (k : Nat) (l0 : List (List Int)) : Option (Int) := if (l0.length : Int) = 1 then (if 0 < (l0.length : Int) then (if 0 < ((rd_L1 l0 0).length : Int) then (some (rd (rd_L1 l0 0) 0)) else (none)) else (none)) else (if (l0.length : Int) = 2 then (if 0 < (l0.length : Int) then (if 0 < ((rd_L1 l0 0).length : Int) then (if 1 < (l0.length : Int) then (if 1 < ((rd_L1 l0 1).length : Int) then (if 1 < ((rd_L1 l0 0).length : Int) then (if 0 < ((rd_L1 l0 1).length : Int) then (some (wrap64 ((wrap64 ((rd (rd_L1 l0 0) 0) * (rd (rd_L1 l0 1) 1))) - (wrap64 ((rd (rd_L1 l0 0) 1) * (rd (rd_L1 l0 1) 0)))))) else (none)) else (none)) else (none)) else (none)) else (none)) else (none)) else (impl_determinantSign.l0 k l0 0 0))
theorem impl_determinantSign.mono_l : ∀ k, (∀ y0 y1 y2, LeO (impl_determinantSign.l0 k y0 y1 y2) (impl_determinantSign.l0 (k + 1) y0 y1 y2))
  | 0 => fun _ _ _ r h => by simp [impl_determinantSign.l0] at h
  | k + 1 => by
    have ih0 := impl_determinantSign.mono_l k
    · intro y0 y1 y2
      unfold impl_determinantSign.l0
      repeat' first
      | (with_reducible exact ih0 _ _ _)
      | (with_reducible exact LeO.refl _)
      | (with_reducible exact LeO.none _)
      | (with_reducible refine LeO.ite ?_ ?_)
      | (with_reducible refine LeO.bind ?_ (fun _ => ?_))
      | exact ih0 _ _ _
      | exact LeO.none _
      | refine LeO.ite ?_ ?_
      | refine LeO.bind ?_ (fun _ => ?_)
theorem impl_determinantSign.mono : ∀ a0 k, LeO (impl_determinantSign.f k a0) (impl_determinantSign.f (k + 1) a0) := by
  intro a0 k
  have ih0 := impl_determinantSign.mono_l k
  unfold impl_determinantSign.f
  repeat' first
      | (with_reducible exact ih0 _ _ _)
      | (with_reducible exact LeO.refl _)
      | (with_reducible exact LeO.none _)
      | (with_reducible refine LeO.ite ?_ ?_)
      | (with_reducible refine LeO.bind ?_ (fun _ => ?_))
      | exact ih0 _ _ _
      | exact LeO.none _
      | refine LeO.ite ?_ ?_
      | refine LeO.bind ?_ (fun _ => ?_)
set_option maxHeartbeats 8000000 in
set_option maxRecDepth 100000 in
theorem impl_determinantSign.calls (k : Nat) (A0 : Option Addr) (c0 : Nat) (l0 : List (List Int)) (r : Int) (w : World) (hr0 : Kd.C (Kd.slice 3 (Kd.int .i64)) w A0 l0.length l0) (hc0 : l0.length ≤ c0) (h : impl_determinantSign.f k l0 = some r) :
    Calls Try.prog 62 #[.slice A0 l0.length c0] w fun e w' => e = .returned (.int .i64 r) ∧ Drawn0 w w' := by
  have HR0 := Aside0.mk hr0; have HC0 := Aside0.mk hc0; clear hr0 hc0; unfold impl_determinantSign.f at h; have H := h; clear h
  by_cases c2 : (l0.length : Int) = 1
  · rw [if_pos c2] at H
    have c2b0 : ((l0.length : Int) == 1) = true := beq_iff_eq.mpr c2; have c2b1 : ((l0.length : Int) != 1) = false := bne_eq_false_iff_eq.mpr c2; clear c2; obtain ⟨c3, H⟩ := ifN H; have c3b0 : decide (0 < (l0.length : Int)) = true := decide_eq_true c3; have c3b1 : decide (0 < l0.length) = true := decide_eq_true (by omega); clear c3; obtain ⟨c4, H⟩ := ifN H; have c4b0 : decide (0 < ((rd_L1 l0 0).length : Int)) = true := decide_eq_true c4; have c4b1 : decide (0 < (rd_L1 l0 0).length) = true := decide_eq_true (by omega); clear c4; obtain rfl := Option.some.inj H; have p215 : 0 ≤ (0 : Int) := (by omega); have q215 : 0 < (l0.length : Int) := oD; obtain ⟨ad215, A215_0, c215_0, e215, hx215_0, hl215_0, hi215_0⟩ := at_L1 HR0.out 0 p215 q215; cases e215; have qi215 : (0 < l0.length) = True := eq_true (by omega)
    (try rw [show ((0 : Int)).toNat = 0 from rfl] at hx215_0)
    (try rw [Addr.add_zero'] at hx215_0)
    have HR215_0 := Aside0.mk hi215_0; have HC215_0 := Aside0.mk hl215_0; clear hi215_0 hl215_0; replace p215 := eq_true p215; replace q215 := eq_true q215; have p216 : 0 ≤ (0 : Int) := (by omega); have q216 : 0 < ((rd_L1 l0 0).length : Int) := oD; obtain ⟨ad216, e216, hx216_0⟩ := Kd.at_int HR215_0.out 0 p216 q216; cases e216; have qi216 : (0 < (rd_L1 l0 0).length) = True := eq_true (by omega)
    (try rw [show ((0 : Int)).toNat = 0 from rfl] at hx216_0)
    (try rw [Addr.add_zero'] at hx216_0)
    replace p216 := eq_true p216; replace q216 := eq_true q216; go_enter Try.func62, Try.ntmps62
    go_wp2
    repeat (go_quiet (fail); try go_wp2)
    go_ret
    exact ⟨by first | rfl | (simp; done) | (simp [*]; done), by repeat (first | exact Drawn0.refl _ | apply Drawn0.step)⟩
  rw [if_neg c2] at H; have c2b0 : ((l0.length : Int) == 1) = false := beq_eq_false_iff_ne.mpr c2; have c2b1 : ((l0.length : Int) != 1) = true := bne_iff_ne.mpr c2
  by_cases c5 : (l0.length : Int) = 2
  · rw [if_pos c5] at H
    have c5b0 : ((l0.length : Int) == 2) = true := beq_iff_eq.mpr c5; have c5b1 : ((l0.length : Int) != 2) = false := bne_eq_false_iff_eq.mpr c5; clear c5; obtain ⟨c6, H⟩ := ifN H; have c6b0 : decide (0 < (l0.length : Int)) = true := decide_eq_true c6; have c6b1 : decide (0 < l0.length) = true := decide_eq_true (by omega); clear c6; obtain ⟨c7, H⟩ := ifN H; have c7b0 : decide (0 < ((rd_L1 l0 0).length : Int)) = true := decide_eq_true c7; have c7b1 : decide (0 < (rd_L1 l0 0).length) = true := decide_eq_true (by omega); clear c7; obtain ⟨c8, H⟩ := ifN H; have c8b0 : decide (1 < (l0.length : Int)) = true := decide_eq_true c8; have c8b1 : decide (1 < l0.length) = true := decide_eq_true (by omega); clear c8; obtain ⟨c9, H⟩ := ifN H; have c9b0 : decide (1 < ((rd_L1 l0 1).length : Int)) = true := decide_eq_true c9; have c9b1 : decide (1 < (rd_L1 l0 1).length) = true := decide_eq_true (by omega); clear c9; obtain ⟨c10, H⟩ := ifN H; have c10b0 : decide (1 < ((rd_L1 l0 0).length : Int)) = true := decide_eq_true c10; have c10b1 : decide (1 < (rd_L1 l0 0).length) = true := decide_eq_true (by omega); clear c10; obtain ⟨c11, H⟩ := ifN H; have c11b0 : decide (0 < ((rd_L1 l0 1).length : Int)) = true := decide_eq_true c11; have c11b1 : decide (0 < (rd_L1 l0 1).length) = true := decide_eq_true (by omega); clear c11; obtain rfl := Option.some.inj H; have p217 : 0 ≤ (0 : Int) := (by omega); have q217 : 0 < (l0.length : Int) := oD; obtain ⟨ad217, A217_0, c217_0, e217, hx217_0, hl217_0, hi217_0⟩ := at_L1 HR0.out 0 p217 q217; cases e217; have qi217 : (0 < l0.length) = True := eq_true (by omega)
    (try rw [show ((0 : Int)).toNat = 0 from rfl] at hx217_0)
    (try rw [Addr.add_zero'] at hx217_0)
    have HR217_0 := Aside0.mk hi217_0; have HC217_0 := Aside0.mk hl217_0; clear hi217_0 hl217_0; replace p217 := eq_true p217; replace q217 := eq_true q217; have p218 : 0 ≤ (0 : Int) := (by omega); have q218 : 0 < ((rd_L1 l0 0).length : Int) := oD; obtain ⟨ad218, e218, hx218_0⟩ := Kd.at_int HR217_0.out 0 p218 q218; cases e218; have qi218 : (0 < (rd_L1 l0 0).length) = True := eq_true (by omega)
    (try rw [show ((0 : Int)).toNat = 0 from rfl] at hx218_0)
    (try rw [Addr.add_zero'] at hx218_0)
    replace p218 := eq_true p218; replace q218 := eq_true q218; have p219 : 0 ≤ (1 : Int) := (by omega); have q219 : 1 < (l0.length : Int) := oD; obtain ⟨ad219, A219_0, c219_0, e219, hx219_0, hl219_0, hi219_0⟩ := at_L1 HR0.out 1 p219 q219; obtain rfl : ad217 = ad219 := (by injection e219)
    (try simp only [show (1 : Int).toNat = 1 from rfl, Nat.reduceMul, Nat.reduceEqDiff, Go.Addr.add, ↓reduceIte] at hx219_0)
    have qi219 : (1 < l0.length) = True := eq_true (by omega)
    (try rw [show ((1 : Int)).toNat = 1 from rfl] at hx219_0)
    have HR219_0 := Aside0.mk hi219_0; have HC219_0 := Aside0.mk hl219_0; clear hi219_0 hl219_0; replace p219 := eq_true p219; replace q219 := eq_true q219; have p220 : 0 ≤ (1 : Int) := (by omega); have q220 : 1 < ((rd_L1 l0 1).length : Int) := oD; obtain ⟨ad220, e220, hx220_0⟩ := Kd.at_int HR219_0.out 1 p220 q220; cases e220
    (try simp only [show (1 : Int).toNat = 1 from rfl, Nat.reduceMul, Nat.reduceEqDiff, Go.Addr.add, ↓reduceIte] at hx220_0)
    have qi220 : (1 < (rd_L1 l0 1).length) = True := eq_true (by omega)
    (try rw [show ((1 : Int)).toNat = 1 from rfl] at hx220_0)
    replace p220 := eq_true p220; replace q220 := eq_true q220; have p221 : 0 ≤ (0 : Int) := (by omega); have q221 : 0 < (l0.length : Int) := oD; obtain ⟨ad221, A221_0, c221_0, e221, hx221_0, hl221_0, hi221_0⟩ := at_L1 HR0.out 0 p221 q221; obtain rfl : ad217 = ad221 := (by injection e221); have qi221 : (0 < l0.length) = True := eq_true (by omega)
    (try rw [show ((0 : Int)).toNat = 0 from rfl] at hx221_0)
    (try rw [Addr.add_zero'] at hx221_0)
    have HR221_0 := Aside0.mk hi221_0; have HC221_0 := Aside0.mk hl221_0; clear hi221_0 hl221_0; replace p221 := eq_true p221; replace q221 := eq_true q221; have ea_ := Option.some.inj (hx217_0.symm.trans hx221_0)
    injection ea_ with ea_ en_ ec_
    subst ea_; subst ec_; clear en_; have p222 : 0 ≤ (1 : Int) := (by omega); have q222 : 1 < ((rd_L1 l0 0).length : Int) := oD; obtain ⟨ad222, e222, hx222_0⟩ := Kd.at_int HR221_0.out 1 p222 q222; cases e222
    (try simp only [show (1 : Int).toNat = 1 from rfl, Nat.reduceMul, Nat.reduceEqDiff, Go.Addr.add, ↓reduceIte] at hx222_0)
    have qi222 : (1 < (rd_L1 l0 0).length) = True := eq_true (by omega)
    (try rw [show ((1 : Int)).toNat = 1 from rfl] at hx222_0)
    replace p222 := eq_true p222; replace q222 := eq_true q222; have p223 : 0 ≤ (1 : Int) := (by omega); have q223 : 1 < (l0.length : Int) := oD; obtain ⟨ad223, A223_0, c223_0, e223, hx223_0, hl223_0, hi223_0⟩ := at_L1 HR0.out 1 p223 q223; obtain rfl : ad217 = ad223 := (by injection e223)
    (try simp only [show (1 : Int).toNat = 1 from rfl, Nat.reduceMul, Nat.reduceEqDiff, Go.Addr.add, ↓reduceIte] at hx223_0)
    have qi223 : (1 < l0.length) = True := eq_true (by omega)
    (try rw [show ((1 : Int)).toNat = 1 from rfl] at hx223_0)
    have HR223_0 := Aside0.mk hi223_0; have HC223_0 := Aside0.mk hl223_0; clear hi223_0 hl223_0; replace p223 := eq_true p223; replace q223 := eq_true q223; have ea_ := Option.some.inj (hx219_0.symm.trans hx223_0)
    injection ea_ with ea_ en_ ec_
    subst ea_; subst ec_; clear en_; have p224 : 0 ≤ (0 : Int) := (by omega); have q224 : 0 < ((rd_L1 l0 1).length : Int) := oD; obtain ⟨ad224, e224, hx224_0⟩ := Kd.at_int HR223_0.out 0 p224 q224; cases e224; have qi224 : (0 < (rd_L1 l0 1).length) = True := eq_true (by omega)
    (try rw [show ((0 : Int)).toNat = 0 from rfl] at hx224_0)
    (try rw [Addr.add_zero'] at hx224_0)
    replace p224 := eq_true p224; replace q224 := eq_true q224; go_enter Try.func62, Try.ntmps62
    go_wp2
    repeat (go_quiet (fail); try go_wp2)
    go_ret
    exact ⟨by first | rfl | (simp; done) | (simp [*]; done), by repeat (first | exact Drawn0.refl _ | apply Drawn0.step)⟩
  rw [if_neg c5] at H; have c5b0 : ((l0.length : Int) == 2) = false := beq_eq_false_iff_ne.mpr c5; have c5b1 : ((l0.length : Int) != 2) = true := bne_iff_ne.mpr c5; have H' := Aside0.mk H; clear H; go_enter Try.func62, Try.ntmps62
  go_wp2
  repeat (go_quiet (fail); try go_wp2)
  go_loopg [3, 41] k (fun kq v3 v41 w' => ∃ (x3_1 : Int) (x41_1 : Int), v3 = .int .i64 x3_1 ∧ v41 = .int .i64 x41_1 ∧ Aside0 (impl_determinantSign.l0 kq l0 x3_1 x41_1 = some r) ∧ Aside0 (kq ≤ k) ∧ Drawn0 w w')
  case atStart => exact ⟨(0), (0), sR, sR, H', ⟨Nat.le_refl _⟩, by repeat (first | exact Drawn0.refl _ | apply Drawn0.step)⟩
  case round =>
    clear H'; (try clear c2); (try clear c2b0); (try clear c2b1); (try clear c5); (try clear c5b0); (try clear c5b1); obtain ⟨x3_1, x41_1, rfl, rfl, HA, HK1, ⟨m1, rfl⟩⟩ := hrel; cases gk with
    | zero => exact absurd HA.out (by simp [impl_determinantSign.l0])
    | succ k1 =>
      have H := HA.out; clear HA; simp only [impl_determinantSign.l0] at H
      by_cases c12 : x41_1 < 3
      · rw [if_pos c12] at H
        have c12b0 : decide (x41_1 < 3) = true := decide_eq_true c12; clear c12; obtain ⟨c13, H⟩ := ifN H; have c13b0 : decide (0 < (l0.length : Int)) = true := decide_eq_true c13; have c13b1 : decide (0 < l0.length) = true := decide_eq_true (by omega); clear c13; obtain ⟨c14, H⟩ := ifN H; have c14b0 : decide (0 ≤ x41_1) = true := decide_eq_true c14; clear c14; obtain ⟨c15, H⟩ := ifN H; have c15b0 : decide (x41_1 < ((rd_L1 l0 0).length : Int)) = true := decide_eq_true c15; clear c15; obtain ⟨c16, H⟩ := ifN H; have c16b0 : decide (1 < (l0.length : Int)) = true := decide_eq_true c16; have c16b1 : decide (1 < l0.length) = true := decide_eq_true (by omega); clear c16; obtain ⟨ji17, hji17⟩ : ∃ j_ : Int, (Int.tmod (wrap64 (x41_1 + 1)) 3) = j_ := ⟨_, rfl⟩
        replace H : (if 0 ≤ (ji17) then (if (ji17) < ((rd_L1 l0 1).length : Int) then (if 2 < (l0.length : Int) then (if 0 ≤ (Int.tmod (wrap64 (x41_1 + 2)) 3) then (if (Int.tmod (wrap64 (x41_1 + 2)) 3) < ((rd_L1 l0 2).length : Int) then (if (Int.tmod (wrap64 (x41_1 + 2)) 3) < ((rd_L1 l0 1).length : Int) then (if (ji17) < ((rd_L1 l0 2).length : Int) then (impl_determinantSign.l0 k1 l0 (wrap64 (x3_1 + (wrap64 ((rd (rd_L1 l0 0) x41_1) * (wrap64 ((wrap64 ((rd (rd_L1 l0 1) (ji17)) * (rd (rd_L1 l0 2) (Int.tmod (wrap64 (x41_1 + 2)) 3)))) - (wrap64 ((rd (rd_L1 l0 1) (Int.tmod (wrap64 (x41_1 + 2)) 3)) * (rd (rd_L1 l0 2) (ji17)))))))))) (wrap64 (x41_1 + 1))) else (none)) else (none)) else (none)) else (none)) else (none)) else (none)) else (none)) = some r := by first | (rw [hji17] at H; exact H) | (simp only [hji17] at H ⊢; exact H)
        obtain ⟨c18, H⟩ := ifN H; have c18b0 : decide (0 ≤ (ji17)) = true := decide_eq_true c18; clear c18; obtain ⟨c19, H⟩ := ifN H; have c19b0 : decide ((ji17) < ((rd_L1 l0 1).length : Int)) = true := decide_eq_true c19; clear c19; obtain ⟨c20, H⟩ := ifN H; have c20b0 : decide (2 < (l0.length : Int)) = true := decide_eq_true c20; have c20b1 : decide (2 < l0.length) = true := decide_eq_true (by omega); clear c20; obtain ⟨ji21, hji21⟩ : ∃ j_ : Int, (Int.tmod (wrap64 (x41_1 + 2)) 3) = j_ := ⟨_, rfl⟩
        replace H : (if 0 ≤ (ji21) then (if (ji21) < ((rd_L1 l0 2).length : Int) then (if (ji21) < ((rd_L1 l0 1).length : Int) then (if (ji17) < ((rd_L1 l0 2).length : Int) then (impl_determinantSign.l0 k1 l0 (wrap64 (x3_1 + (wrap64 ((rd (rd_L1 l0 0) x41_1) * (wrap64 ((wrap64 ((rd (rd_L1 l0 1) (ji17)) * (rd (rd_L1 l0 2) (ji21)))) - (wrap64 ((rd (rd_L1 l0 1) (ji21)) * (rd (rd_L1 l0 2) (ji17)))))))))) (wrap64 (x41_1 + 1))) else (none)) else (none)) else (none)) else (none)) = some r := by first | (rw [hji21] at H; exact H) | (simp only [hji21] at H ⊢; exact H)
        obtain ⟨c22, H⟩ := ifN H; have c22b0 : decide (0 ≤ (ji21)) = true := decide_eq_true c22; clear c22; obtain ⟨c23, H⟩ := ifN H; have c23b0 : decide ((ji21) < ((rd_L1 l0 2).length : Int)) = true := decide_eq_true c23; clear c23; obtain ⟨c24, H⟩ := ifN H; have c24b0 : decide ((ji21) < ((rd_L1 l0 1).length : Int)) = true := decide_eq_true c24; clear c24; obtain ⟨c25, H⟩ := ifN H; have c25b0 : decide ((ji17) < ((rd_L1 l0 2).length : Int)) = true := decide_eq_true c25; clear c25; have H' := Aside0.mk H; clear H; have p225 : 0 ≤ (0 : Int) := (by omega); have q225 : 0 < (l0.length : Int) := oD; obtain ⟨ad225, A225_0, c225_0, e225, hx225_0, hl225_0, hi225_0⟩ := at_L1 HR0.out 0 p225 q225; cases e225; have qi225 : (0 < l0.length) = True := eq_true (by omega)
        (try rw [show ((0 : Int)).toNat = 0 from rfl] at hx225_0)
        (try rw [Addr.add_zero'] at hx225_0)
        have HR225_0 := Aside0.mk hi225_0; have HC225_0 := Aside0.mk hl225_0; clear hi225_0 hl225_0; replace p225 := eq_true p225; replace q225 := eq_true q225; have p226 : 0 ≤ (x41_1 : Int) := oD; have q226 : x41_1 < ((rd_L1 l0 0).length : Int) := oD; obtain ⟨ad226, e226, hx226_0⟩ := Kd.at_int HR225_0.out x41_1 p226 q226; cases e226; replace p226 := eq_true p226; replace q226 := eq_true q226; have p227 : 0 ≤ (1 : Int) := (by omega); have q227 : 1 < (l0.length : Int) := oD; obtain ⟨ad227, A227_0, c227_0, e227, hx227_0, hl227_0, hi227_0⟩ := at_L1 HR0.out 1 p227 q227; obtain rfl : ad225 = ad227 := (by injection e227)
        (try simp only [show (1 : Int).toNat = 1 from rfl, Nat.reduceMul, Nat.reduceEqDiff, Go.Addr.add, ↓reduceIte] at hx227_0)
        have qi227 : (1 < l0.length) = True := eq_true (by omega)
        (try rw [show ((1 : Int)).toNat = 1 from rfl] at hx227_0)
        have HR227_0 := Aside0.mk hi227_0; have HC227_0 := Aside0.mk hl227_0; clear hi227_0 hl227_0; replace p227 := eq_true p227; replace q227 := eq_true q227; have p228 : 0 ≤ ((ji17) : Int) := oD; have q228 : (ji17) < ((rd_L1 l0 1).length : Int) := oD; obtain ⟨ad228, e228, hx228_0⟩ := Kd.at_int HR227_0.out (ji17) p228 q228; cases e228; replace p228 := eq_true p228; replace q228 := eq_true q228; have p229 : 0 ≤ (2 : Int) := (by omega); have q229 : 2 < (l0.length : Int) := oD; obtain ⟨ad229, A229_0, c229_0, e229, hx229_0, hl229_0, hi229_0⟩ := at_L1 HR0.out 2 p229 q229; obtain rfl : ad225 = ad229 := (by injection e229)
        (try simp only [show (2 : Int).toNat = 2 from rfl, Nat.reduceMul, Nat.reduceEqDiff, Go.Addr.add, ↓reduceIte] at hx229_0)
        have qi229 : (2 < l0.length) = True := eq_true (by omega)
        (try rw [show ((2 : Int)).toNat = 2 from rfl] at hx229_0)
        have HR229_0 := Aside0.mk hi229_0; have HC229_0 := Aside0.mk hl229_0; clear hi229_0 hl229_0; replace p229 := eq_true p229; replace q229 := eq_true q229; have p230 : 0 ≤ ((ji21) : Int) := oD; have q230 : (ji21) < ((rd_L1 l0 2).length : Int) := oD; obtain ⟨ad230, e230, hx230_0⟩ := Kd.at_int HR229_0.out (ji21) p230 q230; cases e230; replace p230 := eq_true p230; replace q230 := eq_true q230; have p231 : 0 ≤ (1 : Int) := (by omega); have q231 : 1 < (l0.length : Int) := oD; obtain ⟨ad231, A231_0, c231_0, e231, hx231_0, hl231_0, hi231_0⟩ := at_L1 HR0.out 1 p231 q231; obtain rfl : ad225 = ad231 := (by injection e231)
        (try simp only [show (1 : Int).toNat = 1 from rfl, Nat.reduceMul, Nat.reduceEqDiff, Go.Addr.add, ↓reduceIte] at hx231_0)
        have qi231 : (1 < l0.length) = True := eq_true (by omega)
        (try rw [show ((1 : Int)).toNat = 1 from rfl] at hx231_0)
        have HR231_0 := Aside0.mk hi231_0; have HC231_0 := Aside0.mk hl231_0; clear hi231_0 hl231_0; replace p231 := eq_true p231; replace q231 := eq_true q231; have ea_ := Option.some.inj (hx227_0.symm.trans hx231_0)
        injection ea_ with ea_ en_ ec_
        subst ea_; subst ec_; clear en_; have p232 : 0 ≤ ((ji21) : Int) := oD; have q232 : (ji21) < ((rd_L1 l0 1).length : Int) := oD; obtain ⟨ad232, e232, hx232_0⟩ := Kd.at_int HR231_0.out (ji21) p232 q232; cases e232; replace p232 := eq_true p232; replace q232 := eq_true q232; have p233 : 0 ≤ (2 : Int) := (by omega); have q233 : 2 < (l0.length : Int) := oD; obtain ⟨ad233, A233_0, c233_0, e233, hx233_0, hl233_0, hi233_0⟩ := at_L1 HR0.out 2 p233 q233; obtain rfl : ad225 = ad233 := (by injection e233)
        (try simp only [show (2 : Int).toNat = 2 from rfl, Nat.reduceMul, Nat.reduceEqDiff, Go.Addr.add, ↓reduceIte] at hx233_0)
        have qi233 : (2 < l0.length) = True := eq_true (by omega)
        (try rw [show ((2 : Int)).toNat = 2 from rfl] at hx233_0)
        have HR233_0 := Aside0.mk hi233_0; have HC233_0 := Aside0.mk hl233_0; clear hi233_0 hl233_0; replace p233 := eq_true p233; replace q233 := eq_true q233; have ea_ := Option.some.inj (hx229_0.symm.trans hx233_0)
        injection ea_ with ea_ en_ ec_
        subst ea_; subst ec_; clear en_; have p234 : 0 ≤ ((ji17) : Int) := oD; have q234 : (ji17) < ((rd_L1 l0 2).length : Int) := oD; obtain ⟨ad234, e234, hx234_0⟩ := Kd.at_int HR233_0.out (ji17) p234 q234; cases e234; replace p234 := eq_true p234; replace q234 := eq_true q234
        go_wp2
        repeat (go_quiet (fail); try go_wp2)
        go_roundg k1
        case measure => have := HK1.out; omega
        case rel => exact ⟨(wrap64 (x3_1 + (wrap64 ((rd (rd_L1 l0 0) x41_1) * (wrap64 ((wrap64 ((rd (rd_L1 l0 1) (ji17)) * (rd (rd_L1 l0 2) (ji21)))) - (wrap64 ((rd (rd_L1 l0 1) (ji21)) * (rd (rd_L1 l0 2) (ji17)))))))))), (wrap64 (x41_1 + 1)), (by first | rfl | (simp; done) | (simp only [← hji17, ← hji21] <;> (first | rfl | simp)) | (simp [*]; done)), sR, H', ⟨by have := HK1.out; omega⟩, by repeat (first | exact Drawn0.refl _ | apply Drawn0.step)⟩
      rw [if_neg c12] at H; have c12b0 : decide (x41_1 < 3) = false := decide_eq_false c12; clear c12; obtain rfl := Option.some.inj H
      go_wp2
      repeat (go_quiet (fail); try go_wp2)
      go_ret
      exact ⟨by first | rfl | (simp; done) | (simp [*]; done), by repeat (first | exact Drawn0.refl _ | apply Drawn0.step)⟩

/-! ### impl_MoveSign: function 20 -/
def impl_MoveSign.f (k : Nat) (l0 : List Int) (l1_0 : List (List Int)) (a1_1 : Int) : Option (Int) := (impl_MoveValid.f k l0 l1_0 a1_1).bind fun t236 => (if t236 = true then ((impl_determinantSign.f k l1_0).bind fun t237 => (if t237 > 0 then (some 1) else (some (-1)))) else (some 0))
theorem impl_MoveSign.mono : ∀ a0 a1 a2 k, LeO (impl_MoveSign.f k a0 a1 a2) (impl_MoveSign.f (k + 1) a0 a1 a2) := by
  intro a0 a1 a2 k
  unfold impl_MoveSign.f
  repeat' first
      | (with_reducible exact impl_MoveValid.mono _ _ _ _)
      | (with_reducible exact impl_determinantSign.mono _ _)
      | (with_reducible exact LeO.refl _)
      | (with_reducible exact LeO.none _)
      | (with_reducible refine LeO.ite ?_ ?_)
      | (with_reducible refine LeO.bind ?_ (fun _ => ?_))
      | exact impl_MoveValid.mono _ _ _ _
      | exact impl_determinantSign.mono _ _
      | exact LeO.none _
      | refine LeO.ite ?_ ?_
      | refine LeO.bind ?_ (fun _ => ?_)
set_option maxHeartbeats 8000000 in
set_option maxRecDepth 100000 in
theorem impl_MoveSign.calls (k : Nat) (A0 : Option Addr) (c0 : Nat) (l0 : List Int) (A1_0 : Option Addr) (c1_0 : Nat) (l1_0 : List (List Int)) (a1_1 : Int) (r : Int) (w : World) (hr0 : Kd.C (Kd.int .i64) w A0 l0.length l0) (hc0 : l0.length ≤ c0) (hr1_0 : Kd.C (Kd.slice 3 (Kd.int .i64)) w A1_0 l1_0.length l1_0) (hc1_0 : l1_0.length ≤ c1_0) (h : impl_MoveSign.f k l0 l1_0 a1_1 = some r) :
    Calls Try.prog 20 #[.slice A0 l0.length c0, .agg #[.slice A1_0 l1_0.length c1_0, .int .i64 a1_1]] w fun e w' => e = .returned (.int .i64 r) ∧ Below w.heap.size w w' := by
  have hu27 := Try.underlying27; have HR0 := Aside0.mk hr0; have HC0 := Aside0.mk hc0; clear hr0 hc0; have HR1_0 := Aside0.mk hr1_0; have HC1_0 := Aside0.mk hc1_0; clear hr1_0 hc1_0; have HB := Aside0.mk (Below.refl w.heap.size w); unfold impl_MoveSign.f at h; have H := h; clear h; obtain ⟨t236, A3, H⟩ := bnd H
  by_cases c4 : t236 = true
  · subst c4
    replace H := ifT H; obtain ⟨t237, A5, H⟩ := bnd H
    by_cases c6 : t237 > 0
    · rw [if_pos c6] at H
      have c6b0 : decide (0 < t237) = true := decide_eq_true c6; clear c6; obtain rfl := Option.some.inj H; go_enter Try.func20, Try.ntmps20
      go_wp2_with (first | ((with_reducible refine gate_dst (N := 3) rfl ?_); refine boxE (N := 3) (cs := #[.slice A1_0 l1_0.length c1_0, .int .i64 a1_1]) (t := 27) ?_; intro gb235 hg w7 hbox hb; have BK235 := Aside0.mk (hbox); have GW235 := GS w hg; have GE235 := GS w hg; replace HB := BS hb; clear hb hbox hg; obtain ⟨hcz8_0, hcz8_1, hfz8_0, hfz8_1⟩ := bcf BK235) | ((with_reducible refine gate_callee (f := 21) rfl ?_); refine goesK (some 7) Try.func21 #[.slice A0 l0.length c0, .agg #[.slice A1_0 l1_0.length c1_0, .int .i64 a1_1]] ?_; (with_reducible refine (impl_MoveValid.calls k _ _ l0 _ _ l1_0 a1_1 true _ ?side1 ?side2 ?side3 ?side4 A3.out).mono ?_); (case side1 => exact U (Kd.C_below HR0.out HB.out)); (case side2 => exact HC0.out); (case side3 => exact U (Kd.C_below HR1_0.out HB.out)); (case side4 => exact HC1_0.out); rintro e w9 ⟨rfl, hb⟩; refine ⟨_, rfl, ?_⟩; replace BK235 := bB BK235 hb; replace HB := BS hb; (try clear hb); obtain ⟨hcz10_0, hcz10_1, hfz10_0, hfz10_1⟩ := bcf BK235) | ((with_reducible refine gate_callee (f := 62) rfl ?_); refine goesK (some 11) Try.func62 #[.slice A1_0 l1_0.length c1_0] ?_; (with_reducible refine (impl_determinantSign.calls k _ _ l1_0 t237 _ ?side1 ?side2 A5.out).mono ?_); (case side1 => exact U (Kd.C_below HR1_0.out HB.out)); (case side2 => exact HC1_0.out); rintro e w' ⟨rfl, ⟨nd, rfl⟩⟩; refine ⟨_, rfl, ?_⟩))
      go_ret
      exact ⟨eR, BU⟩
    · rw [if_neg c6] at H
      have c6b0 : decide (0 < t237) = false := decide_eq_false c6; clear c6; obtain rfl := Option.some.inj H; go_enter Try.func20, Try.ntmps20
      go_wp2_with (first | ((with_reducible refine gate_dst (N := 3) rfl ?_); refine boxE (N := 3) (cs := #[.slice A1_0 l1_0.length c1_0, .int .i64 a1_1]) (t := 27) ?_; intro gb235 hg w11 hbox hb; have BK235 := Aside0.mk (hbox); have GW235 := GS w hg; have GE235 := GS w hg; replace HB := BS hb; clear hb hbox hg; obtain ⟨hcz12_0, hcz12_1, hfz12_0, hfz12_1⟩ := bcf BK235) | ((with_reducible refine gate_callee (f := 21) rfl ?_); refine goesK (some 7) Try.func21 #[.slice A0 l0.length c0, .agg #[.slice A1_0 l1_0.length c1_0, .int .i64 a1_1]] ?_; (with_reducible refine (impl_MoveValid.calls k _ _ l0 _ _ l1_0 a1_1 true _ ?side1 ?side2 ?side3 ?side4 A3.out).mono ?_); (case side1 => exact U (Kd.C_below HR0.out HB.out)); (case side2 => exact HC0.out); (case side3 => exact U (Kd.C_below HR1_0.out HB.out)); (case side4 => exact HC1_0.out); rintro e w13 ⟨rfl, hb⟩; refine ⟨_, rfl, ?_⟩; replace BK235 := bB BK235 hb; replace HB := BS hb; (try clear hb); obtain ⟨hcz14_0, hcz14_1, hfz14_0, hfz14_1⟩ := bcf BK235) | ((with_reducible refine gate_callee (f := 62) rfl ?_); refine goesK (some 11) Try.func62 #[.slice A1_0 l1_0.length c1_0] ?_; (with_reducible refine (impl_determinantSign.calls k _ _ l1_0 t237 _ ?side1 ?side2 A5.out).mono ?_); (case side1 => exact U (Kd.C_below HR1_0.out HB.out)); (case side2 => exact HC1_0.out); rintro e w' ⟨rfl, ⟨nd, rfl⟩⟩; refine ⟨_, rfl, ?_⟩))
      go_ret
      exact ⟨eR, BU⟩
  · replace c4 := Bool.eq_false_iff.mpr c4
    subst c4; replace H := ifF H; obtain rfl := Option.some.inj H; go_enter Try.func20, Try.ntmps20
    go_wp2_with (first | ((with_reducible refine gate_dst (N := 3) rfl ?_); refine boxE (N := 3) (cs := #[.slice A1_0 l1_0.length c1_0, .int .i64 a1_1]) (t := 27) ?_; intro gb235 hg w15 hbox hb; have BK235 := Aside0.mk (hbox); have GW235 := GS w hg; have GE235 := GS w hg; replace HB := BS hb; clear hb hbox hg; obtain ⟨hcz16_0, hcz16_1, hfz16_0, hfz16_1⟩ := bcf BK235) | ((with_reducible refine gate_callee (f := 21) rfl ?_); refine goesK (some 7) Try.func21 #[.slice A0 l0.length c0, .agg #[.slice A1_0 l1_0.length c1_0, .int .i64 a1_1]] ?_; (with_reducible refine (impl_MoveValid.calls k _ _ l0 _ _ l1_0 a1_1 false _ ?side1 ?side2 ?side3 ?side4 A3.out).mono ?_); (case side1 => exact U (Kd.C_below HR0.out HB.out)); (case side2 => exact HC0.out); (case side3 => exact U (Kd.C_below HR1_0.out HB.out)); (case side4 => exact HC1_0.out); rintro e w17 ⟨rfl, hb⟩; refine ⟨_, rfl, ?_⟩; replace BK235 := bB BK235 hb; replace HB := BS hb; (try clear hb)))
    go_ret
    exact ⟨eR, BU⟩

/-- A state of type 83 at block g of W; what its slices lead to came in by w0. -/
def IsS83 (w0 W : World) (g : Nat) (f0 : List Int) (f1 : Int) : Prop := ∃ A0 c0, W.heap[g]? = some (.cells #[.slice A0 f0.length c0, .int .i64 f1] 83 (0, 0)) ∧ w0.heap.size ≤ g ∧ Kd.C (Kd.int .u8) w0 A0 f0.length f0
theorem IsS83.grown {w0 W : World} {g : Nat} {f0 : List Int} {f1 : Int} {W1 : World} {row : Option Nat} (h : IsS83 w0 W g f0 f1) (hw : W.grownBy W1 row) (hne : some g ≠ row) : IsS83 w0 W1 g f0 f1 := by
  obtain ⟨A0, c0, hb, hg, hr0⟩ := h
  exact ⟨A0, c0, blk_grown hb hw hne, hg, hr0⟩
theorem IsS83.own_neN {w0 W : World} {g : Nat} {f0 : List Int} {f1 : Int} {α : Type} {d : Kd α} {e : Nat} {base : Nat} {ok : Nat → Prop} {v : Value} {xs : List α} (h : IsS83 w0 W g f0 f1) (ho : Kd.N d e W base ok v xs) (ht : e ≠ 83) : some g ≠ v.ownBlock := by
  obtain ⟨A0, c0, hb, hg, hr0⟩ := h
  exact Kd.N_ne ho hb ht
theorem IsS83.fresh {w0 W : World} {g : Nat} {f0 : List Int} {f1 : Int} (h : IsS83 w0 W g f0 f1) : ∀ k, W.heap.size ≤ k → k ≠ g := by
  obtain ⟨A0, c0, hb, hg, hr0⟩ := h
  exact Kd.freshB hb
theorem IsS83.kept {w0 W : World} {g : Nat} {f0 : List Int} {f1 : Int} {W1 : World} {S : Nat → Prop} (h : IsS83 w0 W g f0 f1) (hk : Kept W W1 S) (hne : ¬ S g) : IsS83 w0 W1 g f0 f1 := by
  obtain ⟨A0, c0, hb, hg, hr0⟩ := h
  exact ⟨A0, c0, blk_kept hb hk hne, hg, hr0⟩
theorem IsS83.below {w0 W : World} {g : Nat} {f0 : List Int} {f1 : Int} {W1 : World} (h : IsS83 w0 W g f0 f1) (hw : Below W.heap.size W W1) : IsS83 w0 W1 g f0 f1 := h.grown (grown_of_below hw none) (by simp)
theorem IsS83.alloc {w0 W : World} {g : Nat} {f0 : List Int} {f1 : Int} (h : IsS83 w0 W g f0 f1) (o : Obj) : IsS83 w0 (W.alloc o) g f0 f1 := h.below (below_alloc (Below.refl _ _) o)
theorem IsS83.drewN {w0 W : World} {g : Nat} {f0 : List Int} {f1 : Int} (h : IsS83 w0 W g f0 f1) (m : Nat) : IsS83 w0 (W.drewN m) g f0 f1 := h
theorem IsS83.drew {w0 W : World} {g : Nat} {f0 : List Int} {f1 : Int} (h : IsS83 w0 W g f0 f1) : IsS83 w0 W.drew g f0 f1 := h
theorem IsS83.at_ {w0 W : World} {g : Nat} {f0 : List Int} {f1 : Int} {w' : World} {m : Nat} (hq : W.drewN m = w') (h : IsS83 w0 W g f0 f1) : IsS83 w0 w' g f0 f1 := by subst hq; exact IsS83.drewN h m
theorem IsS83.apart {w0 W : World} {g : Nat} {f0 : List Int} {f1 : Int} {α : Type} {d : Kd α} {e : Nat} {base : Nat} {ok : Nat → Prop} {v : Value} {xs : List α} (h : IsS83 w0 W g f0 f1) (ho : d.R e W base ok v xs) (ht : ∀ q, q ∈ e :: d.E → q ≠ 83) : d.R e W base (fun k => ok k ∧ k ≠ g) v xs := by
  obtain ⟨A0, c0, hb, hg, hr0⟩ := h
  exact Kd.R_types ho hb ht
theorem IsS83.own_ne {w0 W : World} {g : Nat} {f0 : List Int} {f1 : Int} {α : Type} {d : Kd α} {e : Nat} {base : Nat} {ok : Nat → Prop} {v : Value} {xs : List α} (h : IsS83 w0 W g f0 f1) (ho : d.R e W base ok v xs) (ht : e ≠ 83) : some g ≠ v.ownBlock := by
  obtain ⟨A0, c0, hb, hg, hr0⟩ := h
  exact Kd.R_ne ho hb ht
theorem IsS83.apartQ {w0 W : World} {g : Nat} {f0 : List Int} {f1 : Int} {α : Type} {d : Kd α} {e : Nat} {base : Nat} {ok : Nat → Prop} {v : Value} {xs : List α} (h : IsS83 w0 W g f0 f1) (ho : d.Q e W base ok v xs) (ht : ∀ q, q ∈ e :: d.E → q ≠ 83) : d.Q e W base (fun k => ok k ∧ k ≠ g) v xs := by
  obtain ⟨A0, c0, hb, hg, hr0⟩ := h
  exact Kd.Q_types ho hb ht
theorem IsS83.own_neQ {w0 W : World} {g : Nat} {f0 : List Int} {f1 : Int} {α : Type} {d : Kd α} {e : Nat} {base : Nat} {ok : Nat → Prop} {v : Value} {xs : List α} (h : IsS83 w0 W g f0 f1) (ho : d.Q e W base ok v xs) (ht : e ≠ 83) : some g ≠ v.ownBlock := by
  obtain ⟨A0, c0, hb, hg, hr0⟩ := h
  exact Kd.Q_ne ho hb ht
theorem IsS83.apartS {w0 W : World} {g : Nat} {f0 : List Int} {f1 : Int} {α : Type} {d : Kd α} {e : Nat} {base : Nat} {ok : Nat → Prop} {v : Value} {xs : List α} (h : IsS83 w0 W g f0 f1) (ho : d.S e W base ok v xs) (ht : ∀ q, q ∈ e :: d.E → q ≠ 83) : d.S e W base (fun k => ok k ∧ k ≠ g) v xs := by
  obtain ⟨A0, c0, hb, hg, hr0⟩ := h
  exact Kd.S_types ho hb ht
theorem IsS83.own_neS {w0 W : World} {g : Nat} {f0 : List Int} {f1 : Int} {α : Type} {d : Kd α} {e : Nat} {base : Nat} {ok : Nat → Prop} {v : Value} {xs : List α} (h : IsS83 w0 W g f0 f1) (ho : d.S e W base ok v xs) (ht : e ≠ 83) : some g ≠ v.ownBlock := by
  obtain ⟨A0, c0, hb, hg, hr0⟩ := h
  exact Kd.S_ne ho hb ht
theorem IsS83.lt {w0 W : World} {g : Nat} {f0 : List Int} {f1 : Int} (h : IsS83 w0 W g f0 f1) : g < W.heap.size := by
  obtain ⟨A0, c0, hb, hg, hr0⟩ := h
  exact blk_lt hb
theorem IsS83.ge {w0 W : World} {g : Nat} {f0 : List Int} {f1 : Int} (h : IsS83 w0 W g f0 f1) : w0.heap.size ≤ g := by
  obtain ⟨A0, c0, hb, hg, hr0⟩ := h
  exact hg
theorem IsS83.ne_blk {w0 W : World} {g : Nat} {f0 : List Int} {f1 : Int} {a : Nat} {cs : Array Value} {t : TypeId} {fr : Nat × Nat} (h : IsS83 w0 W g f0 f1) (hb2 : W.heap[a]? = some (.cells cs t fr)) (ht : t ≠ 83) : g ≠ a := by
  obtain ⟨A0, c0, hb, hg, hr0⟩ := h
  rintro rfl
  rw [hb] at hb2
  injection hb2 with hb2
  injection hb2 with _ ht2
  exact ht ht2.symm
theorem IsS83.far {w0 W : World} {g : Nat} {f0 : List Int} {f1 : Int} {p : Addr} (h : IsS83 w0 W g f0 f1) (hne : g ≠ p.block) (u : Value) : IsS83 w0 (W.setCell p u) g f0 f1 := by
  obtain ⟨A0, c0, hb, hg, hr0⟩ := h
  exact ⟨A0, c0, blk_far hb hne u, hg, hr0⟩
theorem cellS83_0 {W : World} {g : Nat} {A0 : Option Addr} {c0 : Nat} {f0 : List Int} {f1 : Int} (h : W.heap[g]? = some (.cells #[.slice A0 f0.length c0, .int .i64 f1] 83 (0, 0))) : W.cell? ⟨g, 0, none⟩ = some (.slice A0 f0.length c0) := (blk_cell h 0).trans rfl
theorem cellS83_1 {W : World} {g : Nat} {A0 : Option Addr} {c0 : Nat} {f0 : List Int} {f1 : Int} (h : W.heap[g]? = some (.cells #[.slice A0 f0.length c0, .int .i64 f1] 83 (0, 0))) : W.cell? ⟨g, 1, none⟩ = some (.int .i64 f1) := (blk_cell h 1).trans rfl
theorem IsS83.set_1 {w0 W : World} {g : Nat} {f0 : List Int} {f1 : Int} (h : IsS83 w0 W g f0 f1) (x : Int) : IsS83 w0 (W.setCell ⟨g, 1, none⟩ (.int .i64 x)) g f0 x := by
  obtain ⟨A0, c0, hb, hg, hr0⟩ := h
  exact ⟨A0, c0, by simpa using blk_set hb 1 (.int .i64 x), hg, hr0⟩
theorem IsS83.new (w0 W : World) (A0 : Option Addr) (c0 : Nat) (f0 : List Int) (f1 : Int) (hB : Below w0.heap.size w0 W) (hr0 : Kd.C (Kd.int .u8) w0 A0 f0.length f0) : IsS83 w0 (W.alloc (.cells #[.slice A0 f0.length c0, .int .i64 f1] 83)) W.heap.size f0 f1 := ⟨A0, c0, by simpa using heap_alloc_new W _, hB.size, hr0⟩

/-! ### spec_l6Open: function 51 -/
def spec_l6Open.f (l0 : List Int) : Option (List Int × Int) := if (l0.length : Int) > 2000 then (if 2000 ≤ (l0.length : Int) then (some (l0.take 2000, 0)) else (none)) else (some (l0, 0))
set_option maxHeartbeats 8000000 in
set_option maxRecDepth 100000 in
theorem spec_l6Open.calls (A0 : Option Addr) (c0 : Nat) (l0 : List Int) (r1 : List Int) (r2 : Int) (w0 w : World) (hB : Below w0.heap.size w0 w) (hr0 : Kd.C (Kd.int .u8) w0 A0 l0.length l0) (hc0 : l0.length ≤ c0) (h : spec_l6Open.f l0 = some (r1, r2)) :
    Calls Try.prog 51 #[.slice A0 l0.length c0] w fun e w' => ∃ g_ : Nat, e = .returned (.pointer (some ⟨g_, 0, none⟩)) ∧ IsS83 w0 w' g_ r1 r2 ∧ Below w0.heap.size w0 w' ∧ Below w.heap.size w w' := by
  have hu83 := Try.underlying83; have HR0 := Aside0.mk hr0; have HC0 := Aside0.mk hc0; clear hr0 hc0; have HBW := Aside0.mk (Below.refl w.heap.size w); have HW0 := Aside0.mk hB.size; have HB := Aside0.mk hB; clear hB; unfold spec_l6Open.f at h; have H := h; clear h
  by_cases c2 : (l0.length : Int) > 2000
  · rw [if_pos c2] at H
    have c2b0 : decide (2000 < (l0.length : Int)) = true := decide_eq_true c2; have c2b1 : decide (2000 < l0.length) = true := decide_eq_true (by omega); clear c2; obtain ⟨c3, H⟩ := ifN H; have c3b0 := eq_true c3; have c3b1 : decide (2000 ≤ (l0.length : Int)) = true := decide_eq_true c3; clear c3; simp only [Option.some.injEq, Prod.mk.injEq] at H; obtain ⟨rfl, rfl⟩ := H; obtain ⟨i04, hi04, _, hsz4, _⟩ := info_parts info5; obtain ⟨hcut4, hA4, hC4⟩ := print_take_of (P := Try.prog) (Value.int .u8) 0 22 5 .i64 Try.underlying22 hi04 hsz4 A0 c0 l0 2000 (by omega) (oD) HC0.out; have HR238 := Aside0.mk (Kd.C_of_reads (h1 := fun _ => rfl) (hA4 _ (Kd.reads_of_C HR0.out))); have HC238 := Aside0.mk hC4; clear hA4 hC4 hi04 hsz4; go_enter Try.func51, Try.ntmps51
    go_wp2_with (first | ((with_reducible refine gate_dst (N := 10) rfl ?_); refine boxE (N := 10) (cs := #[.slice A0 (l0.take 2000).length c0, .int .i64 0]) (t := 83) ?_; intro gb239 hg w5 hbox hb; replace HB := BS hb; have BK239 := Aside0.mk (hbox); have GW239 := Aside0.mk ((by rw [hg]; exact (below_size (by repeat (first | (with_reducible first | exact HBW.out | apply below_alloc | apply pw_below_drewN | apply below_drew1) | exact HBW.out))) : w.heap.size ≤ gb239)); have GE239 := Aside0.mk ((Nat.le_trans HW0.out (by rw [hg]; exact (below_size (by repeat (first | (with_reducible first | exact HBW.out | apply below_alloc | apply pw_below_drewN | apply below_drew1) | exact HBW.out))) : w.heap.size ≤ gb239) : w0.heap.size ≤ gb239)); replace HBW := Aside0.mk (below_step HBW.out hb); clear hb hbox hg))
    go_ret
    exact ⟨_, rfl, (show IsS83 w0 _ gb239 (l0.take 2000) 0 from ⟨_, _, U BK239.out, GE239.out, HR238.out⟩), BU, by repeat (first | (with_reducible first | exact HBW.out | apply below_alloc | apply pw_below_drewN | apply below_drew1 | refine below_set ?_ GW239.out) | exact HBW.out)⟩
  rw [if_neg c2] at H; have c2b0 : decide (2000 < (l0.length : Int)) = false := decide_eq_false c2; have c2b1 : decide (2000 < l0.length) = false := decide_eq_false (by omega); clear c2; simp only [Option.some.injEq, Prod.mk.injEq] at H; obtain ⟨rfl, rfl⟩ := H; go_enter Try.func51, Try.ntmps51
  go_wp2_with (first | ((with_reducible refine gate_dst (N := 10) rfl ?_); refine boxE (N := 10) (cs := #[.slice A0 l0.length c0, .int .i64 0]) (t := 83) ?_; intro gb240 hg w6 hbox hb; replace HB := BS hb; have BK240 := Aside0.mk (hbox); have GW240 := Aside0.mk ((by rw [hg]; exact (below_size (by repeat (first | (with_reducible first | exact HBW.out | apply below_alloc | apply pw_below_drewN | apply below_drew1) | exact HBW.out))) : w.heap.size ≤ gb240)); have GE240 := Aside0.mk ((Nat.le_trans HW0.out (by rw [hg]; exact (below_size (by repeat (first | (with_reducible first | exact HBW.out | apply below_alloc | apply pw_below_drewN | apply below_drew1) | exact HBW.out))) : w.heap.size ≤ gb240) : w0.heap.size ≤ gb240)); replace HBW := Aside0.mk (below_step HBW.out hb); clear hb hbox hg))
  go_ret
  exact ⟨_, rfl, (show IsS83 w0 _ gb240 l0 0 from ⟨_, _, U BK240.out, GE240.out, HR0.out⟩), BU, by repeat (first | (with_reducible first | exact HBW.out | apply below_alloc | apply pw_below_drewN | apply below_drew1 | refine below_set ?_ GW240.out) | exact HBW.out)⟩

/-! ### spec_l6In: function 86 -/
def spec_l6In.f (a0 : Int) (a1 : Int) (a2 : Int) : Option (Bool) := if a0 ≥ a1 then (some (decide (a0 ≤ a2))) else (some false)
set_option maxHeartbeats 8000000 in
set_option maxRecDepth 100000 in
theorem spec_l6In.calls (a0 : Int) (a1 : Int) (a2 : Int) (r : Bool) (w : World) (h : spec_l6In.f a0 a1 a2 = some r) :
    Calls Try.prog 86 #[.int .i64 a0, .int .i64 a1, .int .i64 a2] w fun e w' => e = .returned (.bool r) ∧ Drawn0 w w' := by
  unfold spec_l6In.f at h; have H := h; clear h
  by_cases c4 : a0 ≥ a1
  · rw [if_pos c4] at H
    have c4b0 : decide (a1 ≤ a0) = true := decide_eq_true c4; clear c4; obtain rfl := Option.some.inj H; go_enter Try.func86, Try.ntmps86
    go_wp2
    go_ret
    exact ⟨by first | rfl | (simp; done) | (simp [*]; done), by repeat (first | exact Drawn0.refl _ | apply Drawn0.step)⟩
  rw [if_neg c4] at H; have c4b0 : decide (a1 ≤ a0) = false := decide_eq_false c4; clear c4; obtain rfl := Option.some.inj H; go_enter Try.func86, Try.ntmps86
  go_wp2
  go_ret
  exact ⟨by first | rfl | (simp; done) | (simp [*]; done), by repeat (first | exact Drawn0.refl _ | apply Drawn0.step)⟩

/-! ### spec_FormValid: function 85 -/
def spec_FormValid.l0 : Nat → List Int → Int → Option (Bool)
  | 0, _, _ => none
  | k + 1, x0, x3 => if x3 < (x0.length : Int) then (if 0 ≤ x3 then (if (rd x0 x3) = 0 then (some false) else ((spec_l6In.f (rd x0 x3) (-30) 30).bind fun t243 => (if t243 = true then (spec_FormValid.l0 k x0 (wrap64 (x3 + 1))) else (some false)))) else (none)) else ((spec_l6In.f (x0.length : Int) 1 4).bind fun t244 => (some t244))
def spec_FormValid.f (k : Nat) (l0 : List Int) : Option (Bool) := spec_FormValid.l0 k l0 0
theorem spec_FormValid.mono_l : ∀ k, (∀ y0 y1, LeO (spec_FormValid.l0 k y0 y1) (spec_FormValid.l0 (k + 1) y0 y1))
  | 0 => fun _ _ r h => by simp [spec_FormValid.l0] at h
  | k + 1 => by
    have ih0 := spec_FormValid.mono_l k
    · intro y0 y1
      unfold spec_FormValid.l0
      repeat' first
      | (with_reducible exact ih0 _ _)
      | (with_reducible exact LeO.refl _)
      | (with_reducible exact LeO.none _)
      | (with_reducible refine LeO.ite ?_ ?_)
      | (with_reducible refine LeO.bind ?_ (fun _ => ?_))
      | exact ih0 _ _
      | exact LeO.none _
      | refine LeO.ite ?_ ?_
      | refine LeO.bind ?_ (fun _ => ?_)
theorem spec_FormValid.mono : ∀ a0 k, LeO (spec_FormValid.f k a0) (spec_FormValid.f (k + 1) a0) := by
  intro a0 k
  have ih0 := spec_FormValid.mono_l k
  unfold spec_FormValid.f
  repeat' first
      | (with_reducible exact ih0 _ _)
      | (with_reducible exact LeO.refl _)
      | (with_reducible exact LeO.none _)
      | (with_reducible refine LeO.ite ?_ ?_)
      | (with_reducible refine LeO.bind ?_ (fun _ => ?_))
      | exact ih0 _ _
      | exact LeO.none _
      | refine LeO.ite ?_ ?_
      | refine LeO.bind ?_ (fun _ => ?_)
set_option maxHeartbeats 8000000 in
set_option maxRecDepth 100000 in
theorem spec_FormValid.calls (k : Nat) (A0 : Option Addr) (c0 : Nat) (l0 : List Int) (r : Bool) (w : World) (hr0 : Kd.C (Kd.int .i64) w A0 l0.length l0) (hc0 : l0.length ≤ c0) (h : spec_FormValid.f k l0 = some r) :
    Calls Try.prog 85 #[.slice A0 l0.length c0] w fun e w' => e = .returned (.bool r) ∧ Drawn0 w w' := by
  have HR0 := Aside0.mk hr0; have HC0 := Aside0.mk hc0; clear hr0 hc0; unfold spec_FormValid.f at h; have H := h; clear h; have H' := Aside0.mk H; clear H; go_enter Try.func85, Try.ntmps85
  go_wp2
  go_loopg [3] k (fun kq v3 w' => ∃ (x3_1 : Int), v3 = .int .i64 x3_1 ∧ Aside0 (spec_FormValid.l0 kq l0 x3_1 = some r) ∧ Aside0 (kq ≤ k) ∧ Drawn0 w w')
  case atStart => exact ⟨(0), sR, H', ⟨Nat.le_refl _⟩, by repeat (first | exact Drawn0.refl _ | apply Drawn0.step)⟩
  case round =>
    clear H'; obtain ⟨x3_1, rfl, HA, HK1, ⟨m1, rfl⟩⟩ := hrel; cases gk with
    | zero => exact absurd HA.out (by simp [spec_FormValid.l0])
    | succ k1 =>
      have H := HA.out; clear HA; simp only [spec_FormValid.l0] at H
      by_cases c2 : x3_1 < (l0.length : Int)
      · rw [if_pos c2] at H
        have c2b0 : decide (x3_1 < (l0.length : Int)) = true := decide_eq_true c2; clear c2; obtain ⟨c3, H⟩ := ifN H; have c3b0 : decide (0 ≤ x3_1) = true := decide_eq_true c3; clear c3
        by_cases c4 : (rd l0 x3_1) = 0
        · rw [if_pos c4] at H
          have c4b0 : ((rd l0 x3_1) == 0) = true := beq_iff_eq.mpr c4; have c4b1 : ((rd l0 x3_1) != 0) = false := bne_eq_false_iff_eq.mpr c4; clear c4; obtain rfl := Option.some.inj H; have p241 : 0 ≤ (x3_1 : Int) := oD; have q241 : x3_1 < (l0.length : Int) := oD; obtain ⟨ad241, e241, hx241_0⟩ := Kd.at_int HR0.out x3_1 p241 q241; cases e241; replace p241 := eq_true p241; replace q241 := eq_true q241
          go_wp2
          go_ret
          exact ⟨by first | rfl | (simp; done) | (simp [*]; done), by repeat (first | exact Drawn0.refl _ | apply Drawn0.step)⟩
        rw [if_neg c4] at H; have c4b0 : ((rd l0 x3_1) == 0) = false := beq_eq_false_iff_ne.mpr c4; have c4b1 : ((rd l0 x3_1) != 0) = true := bne_iff_ne.mpr c4; obtain ⟨t243, A5, H⟩ := bnd H
        by_cases c6 : t243 = true
        · subst c6
          replace H := ifT H; have H' := Aside0.mk H; clear H; have p241 : 0 ≤ (x3_1 : Int) := oD; have q241 : x3_1 < (l0.length : Int) := oD; obtain ⟨ad241, e241, hx241_0⟩ := Kd.at_int HR0.out x3_1 p241 q241; cases e241; replace p241 := eq_true p241; replace q241 := eq_true q241; have p242 : 0 ≤ (x3_1 : Int) := oD; have q242 : x3_1 < (l0.length : Int) := oD; obtain ⟨ad242, e242, hx242_0⟩ := Kd.at_int HR0.out x3_1 p242 q242; obtain rfl : ad241 = ad242 := (by injection e242); replace p242 := eq_true p242; replace q242 := eq_true q242
          go_wp2_with (first | (go_at_call 86; (with_reducible refine (spec_l6In.calls (rd l0 x3_1) (-30) 30 true _ A5.out).mono ?_); rintro e w' ⟨rfl, ⟨nd, rfl⟩⟩))
          go_roundg k1
          case measure => have := HK1.out; omega
          case rel => exact ⟨(wrap64 (x3_1 + 1)), sR, H', ⟨by have := HK1.out; omega⟩, by repeat (first | exact Drawn0.refl _ | apply Drawn0.step)⟩
        replace c6 := Bool.eq_false_iff.mpr c6; subst c6; replace H := ifF H; obtain rfl := Option.some.inj H; have p241 : 0 ≤ (x3_1 : Int) := oD; have q241 : x3_1 < (l0.length : Int) := oD; obtain ⟨ad241, e241, hx241_0⟩ := Kd.at_int HR0.out x3_1 p241 q241; cases e241; replace p241 := eq_true p241; replace q241 := eq_true q241; have p242 : 0 ≤ (x3_1 : Int) := oD; have q242 : x3_1 < (l0.length : Int) := oD; obtain ⟨ad242, e242, hx242_0⟩ := Kd.at_int HR0.out x3_1 p242 q242; obtain rfl : ad241 = ad242 := (by injection e242); replace p242 := eq_true p242; replace q242 := eq_true q242
        go_wp2_with (first | (go_at_call 86; (with_reducible refine (spec_l6In.calls (rd l0 x3_1) (-30) 30 false _ A5.out).mono ?_); rintro e w' ⟨rfl, ⟨nd, rfl⟩⟩))
        go_ret
        exact ⟨by first | rfl | (simp; done) | (simp [*]; done), by repeat (first | exact Drawn0.refl _ | apply Drawn0.step)⟩
      rw [if_neg c2] at H; have c2b0 : decide (x3_1 < (l0.length : Int)) = false := decide_eq_false c2; clear c2; obtain ⟨t244, A7, H⟩ := bnd H; obtain rfl := Option.some.inj H
      go_wp2_with (first | ((with_reducible refine gate_callee (f := 86) rfl ?_); refine goesK (some 25) Try.func86 #[.int .i64 (l0.length : Int), .int .i64 1, .int .i64 4] ?_; (with_reducible refine (spec_l6In.calls (l0.length : Int) 1 4 t244 _ A7.out).mono ?_); rintro e w' ⟨rfl, ⟨nd, rfl⟩⟩; refine ⟨_, rfl, ?_⟩))
      go_ret
      exact ⟨by first | rfl | (simp; done) | (simp [*]; done), by repeat (first | exact Drawn0.refl _ | apply Drawn0.step)⟩

end Go.Proofs.Ytnbeeogmaamgdaa.PFnSign
