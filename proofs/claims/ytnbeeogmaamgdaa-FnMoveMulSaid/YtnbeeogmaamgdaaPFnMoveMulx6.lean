-- Written by a program of this session (wip/print2.py): the functions that the law reaches, plain, and the walks.
import Derived.Test.YtnbeeogmaamgdaaPFnMoveMulx0
import Derived.Test.YtnbeeogmaamgdaaPFnMoveMulx3
namespace Go.Proofs.Ytnbeeogmaamgdaa.PFnMoveMul
open Go.RowKit Go.Proofs.YtnbeeogmaamgdaaW.PrintWords Go.Proofs.YtnbeeogmaamgdaaW.PrintLast Go.Proofs.YtnbeeogmaamgdaaW.PrintMore
attribute [local go_sem] max2_int min2_int max_two min_two max_three min_three max_four min_four   -- for this text's walks alone
set_option linter.unusedVariables false
set_option linter.unusedSimpArgs false

/-! ### impl_determinantSign: function 62 -/
def impl_determinantSign.l0 : Nat → List (List Int) → Int → Int → Option (Int)
  | 0, _, _, _ => none
  | k + 1, x0, x3, x41 => if x41 < 3 then (if 0 < (x0.length : Int) then (if 0 ≤ x41 then (if x41 < ((rd_L1 x0 0).length : Int) then (if 1 < (x0.length : Int) then (if 0 ≤ (Int.tmod (wrap64 (x41 + 1)) 3) then (if (Int.tmod (wrap64 (x41 + 1)) 3) < ((rd_L1 x0 1).length : Int) then (if 2 < (x0.length : Int) then (if 0 ≤ (Int.tmod (wrap64 (x41 + 2)) 3) then (if (Int.tmod (wrap64 (x41 + 2)) 3) < ((rd_L1 x0 2).length : Int) then (if (Int.tmod (wrap64 (x41 + 2)) 3) < ((rd_L1 x0 1).length : Int) then (if (Int.tmod (wrap64 (x41 + 1)) 3) < ((rd_L1 x0 2).length : Int) then (impl_determinantSign.l0 k x0 (wrap64 (x3 + (wrap64 ((rd (rd_L1 x0 0) x41) * (wrap64 ((wrap64 ((rd (rd_L1 x0 1) (Int.tmod (wrap64 (x41 + 1)) 3)) * (rd (rd_L1 x0 2) (Int.tmod (wrap64 (x41 + 2)) 3)))) - (wrap64 ((rd (rd_L1 x0 1) (Int.tmod (wrap64 (x41 + 2)) 3)) * (rd (rd_L1 x0 2) (Int.tmod (wrap64 (x41 + 1)) 3)))))))))) (wrap64 (x41 + 1))) else (none)) else (none)) else (none)) else (none)) else (none)) else (none)) else (none)) else (none)) else (none)) else (none)) else (none)) else (some x3)
def impl_determinantSign.f (k : Nat) (l0 : List (List Int)) : Option (Int) := if (l0.length : Int) = 1 then (if 0 < (l0.length : Int) then (if 0 < ((rd_L1 l0 0).length : Int) then (some (rd (rd_L1 l0 0) 0)) else (none)) else (none)) else (if (l0.length : Int) = 2 then (if 0 < (l0.length : Int) then (if 0 < ((rd_L1 l0 0).length : Int) then (if 1 < (l0.length : Int) then (if 1 < ((rd_L1 l0 1).length : Int) then (if 1 < ((rd_L1 l0 0).length : Int) then (if 0 < ((rd_L1 l0 1).length : Int) then (some (wrap64 ((wrap64 ((rd (rd_L1 l0 0) 0) * (rd (rd_L1 l0 1) 1))) - (wrap64 ((rd (rd_L1 l0 0) 1) * (rd (rd_L1 l0 1) 0)))))) else (none)) else (none)) else (none)) else (none)) else (none)) else (none)) else (impl_determinantSign.l0 k l0 0 0))
theorem impl_determinantSign.mono_l : ∀ k, (∀ y0 y1 y2, LeO (impl_determinantSign.l0 k y0 y1 y2) (impl_determinantSign.l0 (k + 1) y0 y1 y2))
  | 0 => fun _ _ _ r h => by simp [impl_determinantSign.l0] at h
  | k + 1 => by
    have ih0 := impl_determinantSign.mono_l k
    · intro y0 y1 y2
      unfold impl_determinantSign.l0
      repeat' first
      | (with_reducible exact ih0 _ _ _)
      | (with_reducible exact LeO.refl _)
      | (with_reducible exact LeO.none _)
      | (with_reducible refine LeO.ite ?_ ?_)
      | (with_reducible refine LeO.bind ?_ (fun _ => ?_))
      | exact ih0 _ _ _
      | exact LeO.none _
      | refine LeO.ite ?_ ?_
      | refine LeO.bind ?_ (fun _ => ?_)
theorem impl_determinantSign.mono : ∀ a0 k, LeO (impl_determinantSign.f k a0) (impl_determinantSign.f (k + 1) a0) := by
  intro a0 k
  have ih0 := impl_determinantSign.mono_l k
  unfold impl_determinantSign.f
  repeat' first
      | (with_reducible exact ih0 _ _ _)
      | (with_reducible exact LeO.refl _)
      | (with_reducible exact LeO.none _)
      | (with_reducible refine LeO.ite ?_ ?_)
      | (with_reducible refine LeO.bind ?_ (fun _ => ?_))
      | exact ih0 _ _ _
      | exact LeO.none _
      | refine LeO.ite ?_ ?_
      | refine LeO.bind ?_ (fun _ => ?_)
set_option maxHeartbeats 8000000 in
set_option maxRecDepth 100000 in
theorem impl_determinantSign.calls (k : Nat) (A0 : Option Addr) (c0 : Nat) (l0 : List (List Int)) (r : Int) (w : World) (hr0 : Kd.C (Kd.slice 3 (Kd.int .i64)) w A0 l0.length l0) (hc0 : l0.length ≤ c0) (h : impl_determinantSign.f k l0 = some r) :
    Calls Try.prog 62 #[.slice A0 l0.length c0] w fun e w' => e = .returned (.int .i64 r) ∧ Drawn0 w w' := by
  have HR0 := Aside0.mk hr0; have HC0 := Aside0.mk hc0; clear hr0 hc0; unfold impl_determinantSign.f at h; have H := h; clear h
  by_cases c2 : (l0.length : Int) = 1
  · rw [if_pos c2] at H
    have c2b0 : ((l0.length : Int) == 1) = true := beq_iff_eq.mpr c2; have c2b1 : ((l0.length : Int) != 1) = false := bne_eq_false_iff_eq.mpr c2; clear c2; obtain ⟨c3, H⟩ := ifN H; have c3b0 : decide (0 < (l0.length : Int)) = true := decide_eq_true c3; have c3b1 : decide (0 < l0.length) = true := decide_eq_true (by omega); clear c3; obtain ⟨c4, H⟩ := ifN H; have c4b0 : decide (0 < ((rd_L1 l0 0).length : Int)) = true := decide_eq_true c4; have c4b1 : decide (0 < (rd_L1 l0 0).length) = true := decide_eq_true (by omega); clear c4; obtain rfl := Option.some.inj H; have p198 : 0 ≤ (0 : Int) := (by omega); have q198 : 0 < (l0.length : Int) := oD; obtain ⟨ad198, A198_0, c198_0, e198, hx198_0, hl198_0, hi198_0⟩ := at_L1 HR0.out 0 p198 q198; cases e198; have qi198 : (0 < l0.length) = True := eq_true (by omega)
    (try rw [show ((0 : Int)).toNat = 0 from rfl] at hx198_0)
    (try rw [Addr.add_zero'] at hx198_0)
    have HR198_0 := Aside0.mk hi198_0; have HC198_0 := Aside0.mk hl198_0; clear hi198_0 hl198_0; replace p198 := eq_true p198; replace q198 := eq_true q198; have p199 : 0 ≤ (0 : Int) := (by omega); have q199 : 0 < ((rd_L1 l0 0).length : Int) := oD; obtain ⟨ad199, e199, hx199_0⟩ := Kd.at_int HR198_0.out 0 p199 q199; cases e199; have qi199 : (0 < (rd_L1 l0 0).length) = True := eq_true (by omega)
    (try rw [show ((0 : Int)).toNat = 0 from rfl] at hx199_0)
    (try rw [Addr.add_zero'] at hx199_0)
    replace p199 := eq_true p199; replace q199 := eq_true q199; go_enter Try.func62, Try.ntmps62
    go_wp2
    repeat (go_quiet (fail); try go_wp2)
    go_ret
    exact ⟨by first | rfl | (simp; done) | (simp [*]; done), by repeat (first | exact Drawn0.refl _ | apply Drawn0.step)⟩
  rw [if_neg c2] at H; have c2b0 : ((l0.length : Int) == 1) = false := beq_eq_false_iff_ne.mpr c2; have c2b1 : ((l0.length : Int) != 1) = true := bne_iff_ne.mpr c2
  by_cases c5 : (l0.length : Int) = 2
  · rw [if_pos c5] at H
    have c5b0 : ((l0.length : Int) == 2) = true := beq_iff_eq.mpr c5; have c5b1 : ((l0.length : Int) != 2) = false := bne_eq_false_iff_eq.mpr c5; clear c5; obtain ⟨c6, H⟩ := ifN H; have c6b0 : decide (0 < (l0.length : Int)) = true := decide_eq_true c6; have c6b1 : decide (0 < l0.length) = true := decide_eq_true (by omega); clear c6; obtain ⟨c7, H⟩ := ifN H; have c7b0 : decide (0 < ((rd_L1 l0 0).length : Int)) = true := decide_eq_true c7; have c7b1 : decide (0 < (rd_L1 l0 0).length) = true := decide_eq_true (by omega); clear c7; obtain ⟨c8, H⟩ := ifN H; have c8b0 : decide (1 < (l0.length : Int)) = true := decide_eq_true c8; have c8b1 : decide (1 < l0.length) = true := decide_eq_true (by omega); clear c8; obtain ⟨c9, H⟩ := ifN H; have c9b0 : decide (1 < ((rd_L1 l0 1).length : Int)) = true := decide_eq_true c9; have c9b1 : decide (1 < (rd_L1 l0 1).length) = true := decide_eq_true (by omega); clear c9; obtain ⟨c10, H⟩ := ifN H; have c10b0 : decide (1 < ((rd_L1 l0 0).length : Int)) = true := decide_eq_true c10; have c10b1 : decide (1 < (rd_L1 l0 0).length) = true := decide_eq_true (by omega); clear c10; obtain ⟨c11, H⟩ := ifN H; have c11b0 : decide (0 < ((rd_L1 l0 1).length : Int)) = true := decide_eq_true c11; have c11b1 : decide (0 < (rd_L1 l0 1).length) = true := decide_eq_true (by omega); clear c11; obtain rfl := Option.some.inj H; have p200 : 0 ≤ (0 : Int) := (by omega); have q200 : 0 < (l0.length : Int) := oD; obtain ⟨ad200, A200_0, c200_0, e200, hx200_0, hl200_0, hi200_0⟩ := at_L1 HR0.out 0 p200 q200; cases e200; have qi200 : (0 < l0.length) = True := eq_true (by omega)
    (try rw [show ((0 : Int)).toNat = 0 from rfl] at hx200_0)
    (try rw [Addr.add_zero'] at hx200_0)
    have HR200_0 := Aside0.mk hi200_0; have HC200_0 := Aside0.mk hl200_0; clear hi200_0 hl200_0; replace p200 := eq_true p200; replace q200 := eq_true q200; have p201 : 0 ≤ (0 : Int) := (by omega); have q201 : 0 < ((rd_L1 l0 0).length : Int) := oD; obtain ⟨ad201, e201, hx201_0⟩ := Kd.at_int HR200_0.out 0 p201 q201; cases e201; have qi201 : (0 < (rd_L1 l0 0).length) = True := eq_true (by omega)
    (try rw [show ((0 : Int)).toNat = 0 from rfl] at hx201_0)
    (try rw [Addr.add_zero'] at hx201_0)
    replace p201 := eq_true p201; replace q201 := eq_true q201; have p202 : 0 ≤ (1 : Int) := (by omega); have q202 : 1 < (l0.length : Int) := oD; obtain ⟨ad202, A202_0, c202_0, e202, hx202_0, hl202_0, hi202_0⟩ := at_L1 HR0.out 1 p202 q202; obtain rfl : ad200 = ad202 := (by injection e202)
    (try simp only [show (1 : Int).toNat = 1 from rfl, Nat.reduceMul, Nat.reduceEqDiff, Go.Addr.add, ↓reduceIte] at hx202_0)
    have qi202 : (1 < l0.length) = True := eq_true (by omega)
    (try rw [show ((1 : Int)).toNat = 1 from rfl] at hx202_0)
    have HR202_0 := Aside0.mk hi202_0; have HC202_0 := Aside0.mk hl202_0; clear hi202_0 hl202_0; replace p202 := eq_true p202; replace q202 := eq_true q202; have p203 : 0 ≤ (1 : Int) := (by omega); have q203 : 1 < ((rd_L1 l0 1).length : Int) := oD; obtain ⟨ad203, e203, hx203_0⟩ := Kd.at_int HR202_0.out 1 p203 q203; cases e203
    (try simp only [show (1 : Int).toNat = 1 from rfl, Nat.reduceMul, Nat.reduceEqDiff, Go.Addr.add, ↓reduceIte] at hx203_0)
    have qi203 : (1 < (rd_L1 l0 1).length) = True := eq_true (by omega)
    (try rw [show ((1 : Int)).toNat = 1 from rfl] at hx203_0)
    replace p203 := eq_true p203; replace q203 := eq_true q203; have p204 : 0 ≤ (0 : Int) := (by omega); have q204 : 0 < (l0.length : Int) := oD; obtain ⟨ad204, A204_0, c204_0, e204, hx204_0, hl204_0, hi204_0⟩ := at_L1 HR0.out 0 p204 q204; obtain rfl : ad200 = ad204 := (by injection e204); have qi204 : (0 < l0.length) = True := eq_true (by omega)
    (try rw [show ((0 : Int)).toNat = 0 from rfl] at hx204_0)
    (try rw [Addr.add_zero'] at hx204_0)
    have HR204_0 := Aside0.mk hi204_0; have HC204_0 := Aside0.mk hl204_0; clear hi204_0 hl204_0; replace p204 := eq_true p204; replace q204 := eq_true q204; have ea_ := Option.some.inj (hx200_0.symm.trans hx204_0)
    injection ea_ with ea_ en_ ec_
    subst ea_; subst ec_; clear en_; have p205 : 0 ≤ (1 : Int) := (by omega); have q205 : 1 < ((rd_L1 l0 0).length : Int) := oD; obtain ⟨ad205, e205, hx205_0⟩ := Kd.at_int HR204_0.out 1 p205 q205; cases e205
    (try simp only [show (1 : Int).toNat = 1 from rfl, Nat.reduceMul, Nat.reduceEqDiff, Go.Addr.add, ↓reduceIte] at hx205_0)
    have qi205 : (1 < (rd_L1 l0 0).length) = True := eq_true (by omega)
    (try rw [show ((1 : Int)).toNat = 1 from rfl] at hx205_0)
    replace p205 := eq_true p205; replace q205 := eq_true q205; have p206 : 0 ≤ (1 : Int) := (by omega); have q206 : 1 < (l0.length : Int) := oD; obtain ⟨ad206, A206_0, c206_0, e206, hx206_0, hl206_0, hi206_0⟩ := at_L1 HR0.out 1 p206 q206; obtain rfl : ad200 = ad206 := (by injection e206)
    (try simp only [show (1 : Int).toNat = 1 from rfl, Nat.reduceMul, Nat.reduceEqDiff, Go.Addr.add, ↓reduceIte] at hx206_0)
    have qi206 : (1 < l0.length) = True := eq_true (by omega)
    (try rw [show ((1 : Int)).toNat = 1 from rfl] at hx206_0)
    have HR206_0 := Aside0.mk hi206_0; have HC206_0 := Aside0.mk hl206_0; clear hi206_0 hl206_0; replace p206 := eq_true p206; replace q206 := eq_true q206; have ea_ := Option.some.inj (hx202_0.symm.trans hx206_0)
    injection ea_ with ea_ en_ ec_
    subst ea_; subst ec_; clear en_; have p207 : 0 ≤ (0 : Int) := (by omega); have q207 : 0 < ((rd_L1 l0 1).length : Int) := oD; obtain ⟨ad207, e207, hx207_0⟩ := Kd.at_int HR206_0.out 0 p207 q207; cases e207; have qi207 : (0 < (rd_L1 l0 1).length) = True := eq_true (by omega)
    (try rw [show ((0 : Int)).toNat = 0 from rfl] at hx207_0)
    (try rw [Addr.add_zero'] at hx207_0)
    replace p207 := eq_true p207; replace q207 := eq_true q207; go_enter Try.func62, Try.ntmps62
    go_wp2
    repeat (go_quiet (fail); try go_wp2)
    go_ret
    exact ⟨by first | rfl | (simp; done) | (simp [*]; done), by repeat (first | exact Drawn0.refl _ | apply Drawn0.step)⟩
  rw [if_neg c5] at H; have c5b0 : ((l0.length : Int) == 2) = false := beq_eq_false_iff_ne.mpr c5; have c5b1 : ((l0.length : Int) != 2) = true := bne_iff_ne.mpr c5; have H' := Aside0.mk H; clear H; go_enter Try.func62, Try.ntmps62
  go_wp2
  repeat (go_quiet (fail); try go_wp2)
  go_loopg [3, 41] k (fun kq v3 v41 w' => ∃ (x3_1 : Int) (x41_1 : Int), v3 = .int .i64 x3_1 ∧ v41 = .int .i64 x41_1 ∧ Aside0 (impl_determinantSign.l0 kq l0 x3_1 x41_1 = some r) ∧ Aside0 (kq ≤ k) ∧ Drawn0 w w')
  case atStart => exact ⟨(0), (0), sR, sR, H', ⟨Nat.le_refl _⟩, by repeat (first | exact Drawn0.refl _ | apply Drawn0.step)⟩
  case round =>
    clear H'; (try clear c2); (try clear c2b0); (try clear c2b1); (try clear c5); (try clear c5b0); (try clear c5b1); obtain ⟨x3_1, x41_1, rfl, rfl, HA, HK1, ⟨m1, rfl⟩⟩ := hrel; cases gk with
    | zero => exact absurd HA.out (by simp [impl_determinantSign.l0])
    | succ k1 =>
      have H := HA.out; clear HA; simp only [impl_determinantSign.l0] at H
      by_cases c12 : x41_1 < 3
      · rw [if_pos c12] at H
        have c12b0 : decide (x41_1 < 3) = true := decide_eq_true c12; clear c12; obtain ⟨c13, H⟩ := ifN H; have c13b0 : decide (0 < (l0.length : Int)) = true := decide_eq_true c13; have c13b1 : decide (0 < l0.length) = true := decide_eq_true (by omega); clear c13; obtain ⟨c14, H⟩ := ifN H; have c14b0 : decide (0 ≤ x41_1) = true := decide_eq_true c14; clear c14; obtain ⟨c15, H⟩ := ifN H; have c15b0 : decide (x41_1 < ((rd_L1 l0 0).length : Int)) = true := decide_eq_true c15; clear c15; obtain ⟨c16, H⟩ := ifN H; have c16b0 : decide (1 < (l0.length : Int)) = true := decide_eq_true c16; have c16b1 : decide (1 < l0.length) = true := decide_eq_true (by omega); clear c16; obtain ⟨ji17, hji17⟩ : ∃ j_ : Int, (Int.tmod (wrap64 (x41_1 + 1)) 3) = j_ := ⟨_, rfl⟩
        replace H : (if 0 ≤ (ji17) then (if (ji17) < ((rd_L1 l0 1).length : Int) then (if 2 < (l0.length : Int) then (if 0 ≤ (Int.tmod (wrap64 (x41_1 + 2)) 3) then (if (Int.tmod (wrap64 (x41_1 + 2)) 3) < ((rd_L1 l0 2).length : Int) then (if (Int.tmod (wrap64 (x41_1 + 2)) 3) < ((rd_L1 l0 1).length : Int) then (if (ji17) < ((rd_L1 l0 2).length : Int) then (impl_determinantSign.l0 k1 l0 (wrap64 (x3_1 + (wrap64 ((rd (rd_L1 l0 0) x41_1) * (wrap64 ((wrap64 ((rd (rd_L1 l0 1) (ji17)) * (rd (rd_L1 l0 2) (Int.tmod (wrap64 (x41_1 + 2)) 3)))) - (wrap64 ((rd (rd_L1 l0 1) (Int.tmod (wrap64 (x41_1 + 2)) 3)) * (rd (rd_L1 l0 2) (ji17)))))))))) (wrap64 (x41_1 + 1))) else (none)) else (none)) else (none)) else (none)) else (none)) else (none)) else (none)) = some r := by first | (rw [hji17] at H; exact H) | (simp only [hji17] at H ⊢; exact H)
        obtain ⟨c18, H⟩ := ifN H; have c18b0 : decide (0 ≤ (ji17)) = true := decide_eq_true c18; clear c18; obtain ⟨c19, H⟩ := ifN H; have c19b0 : decide ((ji17) < ((rd_L1 l0 1).length : Int)) = true := decide_eq_true c19; clear c19; obtain ⟨c20, H⟩ := ifN H; have c20b0 : decide (2 < (l0.length : Int)) = true := decide_eq_true c20; have c20b1 : decide (2 < l0.length) = true := decide_eq_true (by omega); clear c20; obtain ⟨ji21, hji21⟩ : ∃ j_ : Int, (Int.tmod (wrap64 (x41_1 + 2)) 3) = j_ := ⟨_, rfl⟩
        replace H : (if 0 ≤ (ji21) then (if (ji21) < ((rd_L1 l0 2).length : Int) then (if (ji21) < ((rd_L1 l0 1).length : Int) then (if (ji17) < ((rd_L1 l0 2).length : Int) then (impl_determinantSign.l0 k1 l0 (wrap64 (x3_1 + (wrap64 ((rd (rd_L1 l0 0) x41_1) * (wrap64 ((wrap64 ((rd (rd_L1 l0 1) (ji17)) * (rd (rd_L1 l0 2) (ji21)))) - (wrap64 ((rd (rd_L1 l0 1) (ji21)) * (rd (rd_L1 l0 2) (ji17)))))))))) (wrap64 (x41_1 + 1))) else (none)) else (none)) else (none)) else (none)) = some r := by first | (rw [hji21] at H; exact H) | (simp only [hji21] at H ⊢; exact H)
        obtain ⟨c22, H⟩ := ifN H; have c22b0 : decide (0 ≤ (ji21)) = true := decide_eq_true c22; clear c22; obtain ⟨c23, H⟩ := ifN H; have c23b0 : decide ((ji21) < ((rd_L1 l0 2).length : Int)) = true := decide_eq_true c23; clear c23; obtain ⟨c24, H⟩ := ifN H; have c24b0 : decide ((ji21) < ((rd_L1 l0 1).length : Int)) = true := decide_eq_true c24; clear c24; obtain ⟨c25, H⟩ := ifN H; have c25b0 : decide ((ji17) < ((rd_L1 l0 2).length : Int)) = true := decide_eq_true c25; clear c25; have H' := Aside0.mk H; clear H; have p208 : 0 ≤ (0 : Int) := (by omega); have q208 : 0 < (l0.length : Int) := oD; obtain ⟨ad208, A208_0, c208_0, e208, hx208_0, hl208_0, hi208_0⟩ := at_L1 HR0.out 0 p208 q208; cases e208; have qi208 : (0 < l0.length) = True := eq_true (by omega)
        (try rw [show ((0 : Int)).toNat = 0 from rfl] at hx208_0)
        (try rw [Addr.add_zero'] at hx208_0)
        have HR208_0 := Aside0.mk hi208_0; have HC208_0 := Aside0.mk hl208_0; clear hi208_0 hl208_0; replace p208 := eq_true p208; replace q208 := eq_true q208; have p209 : 0 ≤ (x41_1 : Int) := oD; have q209 : x41_1 < ((rd_L1 l0 0).length : Int) := oD; obtain ⟨ad209, e209, hx209_0⟩ := Kd.at_int HR208_0.out x41_1 p209 q209; cases e209; replace p209 := eq_true p209; replace q209 := eq_true q209; have p210 : 0 ≤ (1 : Int) := (by omega); have q210 : 1 < (l0.length : Int) := oD; obtain ⟨ad210, A210_0, c210_0, e210, hx210_0, hl210_0, hi210_0⟩ := at_L1 HR0.out 1 p210 q210; obtain rfl : ad208 = ad210 := (by injection e210)
        (try simp only [show (1 : Int).toNat = 1 from rfl, Nat.reduceMul, Nat.reduceEqDiff, Go.Addr.add, ↓reduceIte] at hx210_0)
        have qi210 : (1 < l0.length) = True := eq_true (by omega)
        (try rw [show ((1 : Int)).toNat = 1 from rfl] at hx210_0)
        have HR210_0 := Aside0.mk hi210_0; have HC210_0 := Aside0.mk hl210_0; clear hi210_0 hl210_0; replace p210 := eq_true p210; replace q210 := eq_true q210; have p211 : 0 ≤ ((ji17) : Int) := oD; have q211 : (ji17) < ((rd_L1 l0 1).length : Int) := oD; obtain ⟨ad211, e211, hx211_0⟩ := Kd.at_int HR210_0.out (ji17) p211 q211; cases e211; replace p211 := eq_true p211; replace q211 := eq_true q211; have p212 : 0 ≤ (2 : Int) := (by omega); have q212 : 2 < (l0.length : Int) := oD; obtain ⟨ad212, A212_0, c212_0, e212, hx212_0, hl212_0, hi212_0⟩ := at_L1 HR0.out 2 p212 q212; obtain rfl : ad208 = ad212 := (by injection e212)
        (try simp only [show (2 : Int).toNat = 2 from rfl, Nat.reduceMul, Nat.reduceEqDiff, Go.Addr.add, ↓reduceIte] at hx212_0)
        have qi212 : (2 < l0.length) = True := eq_true (by omega)
        (try rw [show ((2 : Int)).toNat = 2 from rfl] at hx212_0)
        have HR212_0 := Aside0.mk hi212_0; have HC212_0 := Aside0.mk hl212_0; clear hi212_0 hl212_0; replace p212 := eq_true p212; replace q212 := eq_true q212; have p213 : 0 ≤ ((ji21) : Int) := oD; have q213 : (ji21) < ((rd_L1 l0 2).length : Int) := oD; obtain ⟨ad213, e213, hx213_0⟩ := Kd.at_int HR212_0.out (ji21) p213 q213; cases e213; replace p213 := eq_true p213; replace q213 := eq_true q213; have p214 : 0 ≤ (1 : Int) := (by omega); have q214 : 1 < (l0.length : Int) := oD; obtain ⟨ad214, A214_0, c214_0, e214, hx214_0, hl214_0, hi214_0⟩ := at_L1 HR0.out 1 p214 q214; obtain rfl : ad208 = ad214 := (by injection e214)
        (try simp only [show (1 : Int).toNat = 1 from rfl, Nat.reduceMul, Nat.reduceEqDiff, Go.Addr.add, ↓reduceIte] at hx214_0)
        have qi214 : (1 < l0.length) = True := eq_true (by omega)
        (try rw [show ((1 : Int)).toNat = 1 from rfl] at hx214_0)
        have HR214_0 := Aside0.mk hi214_0; have HC214_0 := Aside0.mk hl214_0; clear hi214_0 hl214_0; replace p214 := eq_true p214; replace q214 := eq_true q214; have ea_ := Option.some.inj (hx210_0.symm.trans hx214_0)
        injection ea_ with ea_ en_ ec_
        subst ea_; subst ec_; clear en_; have p215 : 0 ≤ ((ji21) : Int) := oD; have q215 : (ji21) < ((rd_L1 l0 1).length : Int) := oD; obtain ⟨ad215, e215, hx215_0⟩ := Kd.at_int HR214_0.out (ji21) p215 q215; cases e215; replace p215 := eq_true p215; replace q215 := eq_true q215; have p216 : 0 ≤ (2 : Int) := (by omega); have q216 : 2 < (l0.length : Int) := oD; obtain ⟨ad216, A216_0, c216_0, e216, hx216_0, hl216_0, hi216_0⟩ := at_L1 HR0.out 2 p216 q216; obtain rfl : ad208 = ad216 := (by injection e216)
        (try simp only [show (2 : Int).toNat = 2 from rfl, Nat.reduceMul, Nat.reduceEqDiff, Go.Addr.add, ↓reduceIte] at hx216_0)
        have qi216 : (2 < l0.length) = True := eq_true (by omega)
        (try rw [show ((2 : Int)).toNat = 2 from rfl] at hx216_0)
        have HR216_0 := Aside0.mk hi216_0; have HC216_0 := Aside0.mk hl216_0; clear hi216_0 hl216_0; replace p216 := eq_true p216; replace q216 := eq_true q216; have ea_ := Option.some.inj (hx212_0.symm.trans hx216_0)
        injection ea_ with ea_ en_ ec_
        subst ea_; subst ec_; clear en_; have p217 : 0 ≤ ((ji17) : Int) := oD; have q217 : (ji17) < ((rd_L1 l0 2).length : Int) := oD; obtain ⟨ad217, e217, hx217_0⟩ := Kd.at_int HR216_0.out (ji17) p217 q217; cases e217; replace p217 := eq_true p217; replace q217 := eq_true q217
        go_wp2
        repeat (go_quiet (fail); try go_wp2)
        go_roundg k1
        case measure => have := HK1.out; omega
        case rel => exact ⟨(wrap64 (x3_1 + (wrap64 ((rd (rd_L1 l0 0) x41_1) * (wrap64 ((wrap64 ((rd (rd_L1 l0 1) (ji17)) * (rd (rd_L1 l0 2) (ji21)))) - (wrap64 ((rd (rd_L1 l0 1) (ji21)) * (rd (rd_L1 l0 2) (ji17)))))))))), (wrap64 (x41_1 + 1)), (by first | rfl | (simp; done) | (simp only [← hji17, ← hji21] <;> (first | rfl | simp)) | (simp [*]; done)), sR, H', ⟨by have := HK1.out; omega⟩, by repeat (first | exact Drawn0.refl _ | apply Drawn0.step)⟩
      rw [if_neg c12] at H; have c12b0 : decide (x41_1 < 3) = false := decide_eq_false c12; clear c12; obtain rfl := Option.some.inj H
      go_wp2
      repeat (go_quiet (fail); try go_wp2)
      go_ret
      exact ⟨by first | rfl | (simp; done) | (simp [*]; done), by repeat (first | exact Drawn0.refl _ | apply Drawn0.step)⟩

/-! ### impl_MoveSign: function 20 -/
def impl_MoveSign.f (k : Nat) (l0 : List Int) (l1_0 : List (List Int)) (a1_1 : Int) : Option (Int) := (impl_MoveValid.f k l0 l1_0 a1_1).bind fun t219 => (if t219 = true then ((impl_determinantSign.f k l1_0).bind fun t220 => (if t220 > 0 then (some 1) else (some (-1)))) else (some 0))
theorem impl_MoveSign.mono : ∀ a0 a1 a2 k, LeO (impl_MoveSign.f k a0 a1 a2) (impl_MoveSign.f (k + 1) a0 a1 a2) := by
  intro a0 a1 a2 k
  unfold impl_MoveSign.f
  repeat' first
      | (with_reducible exact impl_MoveValid.mono _ _ _ _)
      | (with_reducible exact impl_determinantSign.mono _ _)
      | (with_reducible exact LeO.refl _)
      | (with_reducible exact LeO.none _)
      | (with_reducible refine LeO.ite ?_ ?_)
      | (with_reducible refine LeO.bind ?_ (fun _ => ?_))
      | exact impl_MoveValid.mono _ _ _ _
      | exact impl_determinantSign.mono _ _
      | exact LeO.none _
      | refine LeO.ite ?_ ?_
      | refine LeO.bind ?_ (fun _ => ?_)
set_option maxHeartbeats 8000000 in
set_option maxRecDepth 100000 in
theorem impl_MoveSign.calls (k : Nat) (A0 : Option Addr) (c0 : Nat) (l0 : List Int) (A1_0 : Option Addr) (c1_0 : Nat) (l1_0 : List (List Int)) (a1_1 : Int) (r : Int) (w : World) (hr0 : Kd.C (Kd.int .i64) w A0 l0.length l0) (hc0 : l0.length ≤ c0) (hr1_0 : Kd.C (Kd.slice 3 (Kd.int .i64)) w A1_0 l1_0.length l1_0) (hc1_0 : l1_0.length ≤ c1_0) (h : impl_MoveSign.f k l0 l1_0 a1_1 = some r) :
    Calls Try.prog 20 #[.slice A0 l0.length c0, .agg #[.slice A1_0 l1_0.length c1_0, .int .i64 a1_1]] w fun e w' => e = .returned (.int .i64 r) ∧ Below w.heap.size w w' := by
  have hu27 := Try.underlying27; have HR0 := Aside0.mk hr0; have HC0 := Aside0.mk hc0; clear hr0 hc0; have HR1_0 := Aside0.mk hr1_0; have HC1_0 := Aside0.mk hc1_0; clear hr1_0 hc1_0; have HB := Aside0.mk (Below.refl w.heap.size w); unfold impl_MoveSign.f at h; have H := h; clear h; obtain ⟨t219, A3, H⟩ := bnd H
  by_cases c4 : t219 = true
  · subst c4
    replace H := ifT H; obtain ⟨t220, A5, H⟩ := bnd H
    by_cases c6 : t220 > 0
    · rw [if_pos c6] at H
      have c6b0 : decide (0 < t220) = true := decide_eq_true c6; clear c6; obtain rfl := Option.some.inj H; go_enter Try.func20, Try.ntmps20
      go_wp2_with (first | ((with_reducible refine gate_dst (N := 3) rfl ?_); refine boxE (N := 3) (cs := #[.slice A1_0 l1_0.length c1_0, .int .i64 a1_1]) (t := 27) ?_; intro gb218 hg w7 hbox hb; have BK218 := Aside0.mk (hbox); have GW218 := GS w hg; have GE218 := GS w hg; replace HB := BS hb; clear hb hbox hg; obtain ⟨hcz8_0, hcz8_1, hfz8_0, hfz8_1⟩ := bcf BK218) | ((with_reducible refine gate_callee (f := 21) rfl ?_); refine goesK (some 7) Try.func21 #[.slice A0 l0.length c0, .agg #[.slice A1_0 l1_0.length c1_0, .int .i64 a1_1]] ?_; (with_reducible refine (impl_MoveValid.calls k _ _ l0 _ _ l1_0 a1_1 true _ ?side1 ?side2 ?side3 ?side4 A3.out).mono ?_); (case side1 => exact U (Kd.C_below HR0.out HB.out)); (case side2 => exact HC0.out); (case side3 => exact U (Kd.C_below HR1_0.out HB.out)); (case side4 => exact HC1_0.out); rintro e w9 ⟨rfl, hb⟩; refine ⟨_, rfl, ?_⟩; replace BK218 := bB BK218 hb; replace HB := BS hb; (try clear hb); obtain ⟨hcz10_0, hcz10_1, hfz10_0, hfz10_1⟩ := bcf BK218) | ((with_reducible refine gate_callee (f := 62) rfl ?_); refine goesK (some 11) Try.func62 #[.slice A1_0 l1_0.length c1_0] ?_; (with_reducible refine (impl_determinantSign.calls k _ _ l1_0 t220 _ ?side1 ?side2 A5.out).mono ?_); (case side1 => exact U (Kd.C_below HR1_0.out HB.out)); (case side2 => exact HC1_0.out); rintro e w' ⟨rfl, ⟨nd, rfl⟩⟩; refine ⟨_, rfl, ?_⟩))
      go_ret
      exact ⟨eR, BU⟩
    rw [if_neg c6] at H; have c6b0 : decide (0 < t220) = false := decide_eq_false c6; clear c6; obtain rfl := Option.some.inj H; go_enter Try.func20, Try.ntmps20
    go_wp2_with (first | ((with_reducible refine gate_dst (N := 3) rfl ?_); refine boxE (N := 3) (cs := #[.slice A1_0 l1_0.length c1_0, .int .i64 a1_1]) (t := 27) ?_; intro gb218 hg w11 hbox hb; have BK218 := Aside0.mk (hbox); have GW218 := GS w hg; have GE218 := GS w hg; replace HB := BS hb; clear hb hbox hg; obtain ⟨hcz12_0, hcz12_1, hfz12_0, hfz12_1⟩ := bcf BK218) | ((with_reducible refine gate_callee (f := 21) rfl ?_); refine goesK (some 7) Try.func21 #[.slice A0 l0.length c0, .agg #[.slice A1_0 l1_0.length c1_0, .int .i64 a1_1]] ?_; (with_reducible refine (impl_MoveValid.calls k _ _ l0 _ _ l1_0 a1_1 true _ ?side1 ?side2 ?side3 ?side4 A3.out).mono ?_); (case side1 => exact U (Kd.C_below HR0.out HB.out)); (case side2 => exact HC0.out); (case side3 => exact U (Kd.C_below HR1_0.out HB.out)); (case side4 => exact HC1_0.out); rintro e w13 ⟨rfl, hb⟩; refine ⟨_, rfl, ?_⟩; replace BK218 := bB BK218 hb; replace HB := BS hb; (try clear hb); obtain ⟨hcz14_0, hcz14_1, hfz14_0, hfz14_1⟩ := bcf BK218) | ((with_reducible refine gate_callee (f := 62) rfl ?_); refine goesK (some 11) Try.func62 #[.slice A1_0 l1_0.length c1_0] ?_; (with_reducible refine (impl_determinantSign.calls k _ _ l1_0 t220 _ ?side1 ?side2 A5.out).mono ?_); (case side1 => exact U (Kd.C_below HR1_0.out HB.out)); (case side2 => exact HC1_0.out); rintro e w' ⟨rfl, ⟨nd, rfl⟩⟩; refine ⟨_, rfl, ?_⟩))
    go_ret
    exact ⟨eR, BU⟩
  replace c4 := Bool.eq_false_iff.mpr c4; subst c4; replace H := ifF H; obtain rfl := Option.some.inj H; go_enter Try.func20, Try.ntmps20
  go_wp2_with (first | ((with_reducible refine gate_dst (N := 3) rfl ?_); refine boxE (N := 3) (cs := #[.slice A1_0 l1_0.length c1_0, .int .i64 a1_1]) (t := 27) ?_; intro gb218 hg w15 hbox hb; have BK218 := Aside0.mk (hbox); have GW218 := GS w hg; have GE218 := GS w hg; replace HB := BS hb; clear hb hbox hg; obtain ⟨hcz16_0, hcz16_1, hfz16_0, hfz16_1⟩ := bcf BK218) | ((with_reducible refine gate_callee (f := 21) rfl ?_); refine goesK (some 7) Try.func21 #[.slice A0 l0.length c0, .agg #[.slice A1_0 l1_0.length c1_0, .int .i64 a1_1]] ?_; (with_reducible refine (impl_MoveValid.calls k _ _ l0 _ _ l1_0 a1_1 false _ ?side1 ?side2 ?side3 ?side4 A3.out).mono ?_); (case side1 => exact U (Kd.C_below HR0.out HB.out)); (case side2 => exact HC0.out); (case side3 => exact U (Kd.C_below HR1_0.out HB.out)); (case side4 => exact HC1_0.out); rintro e w17 ⟨rfl, hb⟩; refine ⟨_, rfl, ?_⟩; replace BK218 := bB BK218 hb; replace HB := BS hb; (try clear hb)))
  go_ret
  exact ⟨eR, BU⟩

end Go.Proofs.Ytnbeeogmaamgdaa.PFnMoveMul
