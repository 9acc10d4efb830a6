-- Written by a program of this session (wip/print2.py): the functions that the law reaches, plain, and the walks.
import Derived.Test.YtnbeeogmaamgdaaPFnOfx0
import Derived.Test.YtnbeeogmaamgdaaPFnOfx3
namespace Go.Proofs.Ytnbeeogmaamgdaa.PFnOf
open Go.RowKit Go.Proofs.YtnbeeogmaamgdaaW.PrintWords Go.Proofs.YtnbeeogmaamgdaaW.PrintLast Go.Proofs.YtnbeeogmaamgdaaW.PrintMore
attribute [local go_sem] max2_int min2_int max_two min_two max_three min_three max_four min_four   -- for this text's walks alone
set_option linter.unusedVariables false
set_option linter.unusedSimpArgs false

/-! ### impl_determinantSign: function 62 -/
def impl_determinantSign.l0 : Nat → List (List Int) → Int → Int → Option (Int)
  | 0, _, _, _ => none
  | k + 1, x0, x3, x41 => if x41 < 3 then (if 0 < (x0.length : Int) then (if 0 ≤ x41 then (if x41 < ((rd_L1 x0 0).length : Int) then (if 1 < (x0.length : Int) then (if 0 ≤ (Int.tmod (wrap64 (x41 + 1)) 3) then (if (Int.tmod (wrap64 (x41 + 1)) 3) < ((rd_L1 x0 1).length : Int) then (if 2 < (x0.length : Int) then (if 0 ≤ (Int.tmod (wrap64 (x41 + 2)) 3) then (if (Int.tmod (wrap64 (x41 + 2)) 3) < ((rd_L1 x0 2).length : Int) then (if (Int.tmod (wrap64 (x41 + 2)) 3) < ((rd_L1 x0 1).length : Int) then (if (Int.tmod (wrap64 (x41 + 1)) 3) < ((rd_L1 x0 2).length : Int) then (impl_determinantSign.l0 k x0 (wrap64 (x3 + (wrap64 ((rd (rd_L1 x0 0) x41) * (wrap64 ((wrap64 ((rd (rd_L1 x0 1) (Int.tmod (wrap64 (x41 + 1)) 3)) * (rd (rd_L1 x0 2) (Int.tmod (wrap64 (x41 + 2)) 3)))) - (wrap64 ((rd (rd_L1 x0 1) (Int.tmod (wrap64 (x41 + 2)) 3)) * (rd (rd_L1 x0 2) (Int.tmod (wrap64 (x41 + 1)) 3)))))))))) (wrap64 (x41 + 1))) else (none)) else (none)) else (none)) else (none)) else (none)) else (none)) else (none)) else (none)) else (none)) else (none)) else (none)) else (some x3)
def impl_determinantSign.f (k : Nat) (l0 : List (List Int)) : Option (Int) := if (l0.length : Int) = 1 then (if 0 < (l0.length : Int) then (if 0 < ((rd_L1 l0 0).length : Int) then (some (rd (rd_L1 l0 0) 0)) else (none)) else (none)) else (if (l0.length : Int) = 2 then (if 0 < (l0.length : Int) then (if 0 < ((rd_L1 l0 0).length : Int) then (if 1 < (l0.length : Int) then (if 1 < ((rd_L1 l0 1).length : Int) then (if 1 < ((rd_L1 l0 0).length : Int) then (if 0 < ((rd_L1 l0 1).length : Int) then (some (wrap64 ((wrap64 ((rd (rd_L1 l0 0) 0) * (rd (rd_L1 l0 1) 1))) - (wrap64 ((rd (rd_L1 l0 0) 1) * (rd (rd_L1 l0 1) 0)))))) else (none)) else (none)) else (none)) else (none)) else (none)) else (none)) else (impl_determinantSign.l0 k l0 0 0))
theorem impl_determinantSign.mono_l : ∀ k, (∀ y0 y1 y2, LeO (impl_determinantSign.l0 k y0 y1 y2) (impl_determinantSign.l0 (k + 1) y0 y1 y2))
  | 0 => fun _ _ _ r h => by simp [impl_determinantSign.l0] at h
  | k + 1 => by
    have ih0 := impl_determinantSign.mono_l k
    · intro y0 y1 y2
      unfold impl_determinantSign.l0
      repeat' first
      | (with_reducible exact ih0 _ _ _)
      | (with_reducible exact LeO.refl _)
      | (with_reducible exact LeO.none _)
      | (with_reducible refine LeO.ite ?_ ?_)
      | (with_reducible refine LeO.bind ?_ (fun _ => ?_))
      | exact ih0 _ _ _
      | exact LeO.none _
      | refine LeO.ite ?_ ?_
      | refine LeO.bind ?_ (fun _ => ?_)
theorem impl_determinantSign.mono : ∀ a0 k, LeO (impl_determinantSign.f k a0) (impl_determinantSign.f (k + 1) a0) := by
  intro a0 k
  have ih0 := impl_determinantSign.mono_l k
  unfold impl_determinantSign.f
  repeat' first
      | (with_reducible exact ih0 _ _ _)
      | (with_reducible exact LeO.refl _)
      | (with_reducible exact LeO.none _)
      | (with_reducible refine LeO.ite ?_ ?_)
      | (with_reducible refine LeO.bind ?_ (fun _ => ?_))
      | exact ih0 _ _ _
      | exact LeO.none _
      | refine LeO.ite ?_ ?_
      | refine LeO.bind ?_ (fun _ => ?_)
set_option maxHeartbeats 8000000 in
set_option maxRecDepth 100000 in
theorem impl_determinantSign.calls (k : Nat) (A0 : Option Addr) (c0 : Nat) (l0 : List (List Int)) (r : Int) (w : World) (hr0 : Kd.C (Kd.slice 3 (Kd.int .i64)) w A0 l0.length l0) (hc0 : l0.length ≤ c0) (h : impl_determinantSign.f k l0 = some r) :
    Calls Try.prog 62 #[.slice A0 l0.length c0] w fun e w' => e = .returned (.int .i64 r) ∧ Drawn0 w w' := by
  have HR0 := Aside0.mk hr0; have HC0 := Aside0.mk hc0; clear hr0 hc0; unfold impl_determinantSign.f at h; have H := h; clear h
  by_cases c2 : (l0.length : Int) = 1
  · rw [if_pos c2] at H
    have c2b0 : ((l0.length : Int) == 1) = true := beq_iff_eq.mpr c2; have c2b1 : ((l0.length : Int) != 1) = false := bne_eq_false_iff_eq.mpr c2; clear c2; obtain ⟨c3, H⟩ := ifN H; have c3b0 : decide (0 < (l0.length : Int)) = true := decide_eq_true c3; have c3b1 : decide (0 < l0.length) = true := decide_eq_true (by omega); clear c3; obtain ⟨c4, H⟩ := ifN H; have c4b0 : decide (0 < ((rd_L1 l0 0).length : Int)) = true := decide_eq_true c4; have c4b1 : decide (0 < (rd_L1 l0 0).length) = true := decide_eq_true (by omega); clear c4; obtain rfl := Option.some.inj H; have p199 : 0 ≤ (0 : Int) := (by omega); have q199 : 0 < (l0.length : Int) := oD; obtain ⟨ad199, A199_0, c199_0, e199, hx199_0, hl199_0, hi199_0⟩ := at_L1 HR0.out 0 p199 q199; cases e199; have qi199 : (0 < l0.length) = True := eq_true (by omega)
    (try rw [show ((0 : Int)).toNat = 0 from rfl] at hx199_0)
    (try rw [Addr.add_zero'] at hx199_0)
    have HR199_0 := Aside0.mk hi199_0; have HC199_0 := Aside0.mk hl199_0; clear hi199_0 hl199_0; replace p199 := eq_true p199; replace q199 := eq_true q199; have p200 : 0 ≤ (0 : Int) := (by omega); have q200 : 0 < ((rd_L1 l0 0).length : Int) := oD; obtain ⟨ad200, e200, hx200_0⟩ := Kd.at_int HR199_0.out 0 p200 q200; cases e200; have qi200 : (0 < (rd_L1 l0 0).length) = True := eq_true (by omega)
    (try rw [show ((0 : Int)).toNat = 0 from rfl] at hx200_0)
    (try rw [Addr.add_zero'] at hx200_0)
    replace p200 := eq_true p200; replace q200 := eq_true q200; go_enter Try.func62, Try.ntmps62
    go_wp2
    repeat (go_quiet (fail); try go_wp2)
    go_ret
    exact ⟨by first | rfl | (simp; done) | (simp [*]; done), by repeat (first | exact Drawn0.refl _ | apply Drawn0.step)⟩
  rw [if_neg c2] at H; have c2b0 : ((l0.length : Int) == 1) = false := beq_eq_false_iff_ne.mpr c2; have c2b1 : ((l0.length : Int) != 1) = true := bne_iff_ne.mpr c2
  by_cases c5 : (l0.length : Int) = 2
  · rw [if_pos c5] at H
    have c5b0 : ((l0.length : Int) == 2) = true := beq_iff_eq.mpr c5; have c5b1 : ((l0.length : Int) != 2) = false := bne_eq_false_iff_eq.mpr c5; clear c5; obtain ⟨c6, H⟩ := ifN H; have c6b0 : decide (0 < (l0.length : Int)) = true := decide_eq_true c6; have c6b1 : decide (0 < l0.length) = true := decide_eq_true (by omega); clear c6; obtain ⟨c7, H⟩ := ifN H; have c7b0 : decide (0 < ((rd_L1 l0 0).length : Int)) = true := decide_eq_true c7; have c7b1 : decide (0 < (rd_L1 l0 0).length) = true := decide_eq_true (by omega); clear c7; obtain ⟨c8, H⟩ := ifN H; have c8b0 : decide (1 < (l0.length : Int)) = true := decide_eq_true c8; have c8b1 : decide (1 < l0.length) = true := decide_eq_true (by omega); clear c8; obtain ⟨c9, H⟩ := ifN H; have c9b0 : decide (1 < ((rd_L1 l0 1).length : Int)) = true := decide_eq_true c9; have c9b1 : decide (1 < (rd_L1 l0 1).length) = true := decide_eq_true (by omega); clear c9; obtain ⟨c10, H⟩ := ifN H; have c10b0 : decide (1 < ((rd_L1 l0 0).length : Int)) = true := decide_eq_true c10; have c10b1 : decide (1 < (rd_L1 l0 0).length) = true := decide_eq_true (by omega); clear c10; obtain ⟨c11, H⟩ := ifN H; have c11b0 : decide (0 < ((rd_L1 l0 1).length : Int)) = true := decide_eq_true c11; have c11b1 : decide (0 < (rd_L1 l0 1).length) = true := decide_eq_true (by omega); clear c11; obtain rfl := Option.some.inj H; have p201 : 0 ≤ (0 : Int) := (by omega); have q201 : 0 < (l0.length : Int) := oD; obtain ⟨ad201, A201_0, c201_0, e201, hx201_0, hl201_0, hi201_0⟩ := at_L1 HR0.out 0 p201 q201; cases e201; have qi201 : (0 < l0.length) = True := eq_true (by omega)
    (try rw [show ((0 : Int)).toNat = 0 from rfl] at hx201_0)
    (try rw [Addr.add_zero'] at hx201_0)
    have HR201_0 := Aside0.mk hi201_0; have HC201_0 := Aside0.mk hl201_0; clear hi201_0 hl201_0; replace p201 := eq_true p201; replace q201 := eq_true q201; have p202 : 0 ≤ (0 : Int) := (by omega); have q202 : 0 < ((rd_L1 l0 0).length : Int) := oD; obtain ⟨ad202, e202, hx202_0⟩ := Kd.at_int HR201_0.out 0 p202 q202; cases e202; have qi202 : (0 < (rd_L1 l0 0).length) = True := eq_true (by omega)
    (try rw [show ((0 : Int)).toNat = 0 from rfl] at hx202_0)
    (try rw [Addr.add_zero'] at hx202_0)
    replace p202 := eq_true p202; replace q202 := eq_true q202; have p203 : 0 ≤ (1 : Int) := (by omega); have q203 : 1 < (l0.length : Int) := oD; obtain ⟨ad203, A203_0, c203_0, e203, hx203_0, hl203_0, hi203_0⟩ := at_L1 HR0.out 1 p203 q203; obtain rfl : ad201 = ad203 := (by injection e203)
    (try simp only [show (1 : Int).toNat = 1 from rfl, Nat.reduceMul, Nat.reduceEqDiff, Go.Addr.add, ↓reduceIte] at hx203_0)
    have qi203 : (1 < l0.length) = True := eq_true (by omega)
    (try rw [show ((1 : Int)).toNat = 1 from rfl] at hx203_0)
    have HR203_0 := Aside0.mk hi203_0; have HC203_0 := Aside0.mk hl203_0; clear hi203_0 hl203_0; replace p203 := eq_true p203; replace q203 := eq_true q203; have p204 : 0 ≤ (1 : Int) := (by omega); have q204 : 1 < ((rd_L1 l0 1).length : Int) := oD; obtain ⟨ad204, e204, hx204_0⟩ := Kd.at_int HR203_0.out 1 p204 q204; cases e204
    (try simp only [show (1 : Int).toNat = 1 from rfl, Nat.reduceMul, Nat.reduceEqDiff, Go.Addr.add, ↓reduceIte] at hx204_0)
    have qi204 : (1 < (rd_L1 l0 1).length) = True := eq_true (by omega)
    (try rw [show ((1 : Int)).toNat = 1 from rfl] at hx204_0)
    replace p204 := eq_true p204; replace q204 := eq_true q204; have p205 : 0 ≤ (0 : Int) := (by omega); have q205 : 0 < (l0.length : Int) := oD; obtain ⟨ad205, A205_0, c205_0, e205, hx205_0, hl205_0, hi205_0⟩ := at_L1 HR0.out 0 p205 q205; obtain rfl : ad201 = ad205 := (by injection e205); have qi205 : (0 < l0.length) = True := eq_true (by omega)
    (try rw [show ((0 : Int)).toNat = 0 from rfl] at hx205_0)
    (try rw [Addr.add_zero'] at hx205_0)
    have HR205_0 := Aside0.mk hi205_0; have HC205_0 := Aside0.mk hl205_0; clear hi205_0 hl205_0; replace p205 := eq_true p205; replace q205 := eq_true q205; have ea_ := Option.some.inj (hx201_0.symm.trans hx205_0)
    injection ea_ with ea_ en_ ec_
    subst ea_; subst ec_; clear en_; have p206 : 0 ≤ (1 : Int) := (by omega); have q206 : 1 < ((rd_L1 l0 0).length : Int) := oD; obtain ⟨ad206, e206, hx206_0⟩ := Kd.at_int HR205_0.out 1 p206 q206; cases e206
    (try simp only [show (1 : Int).toNat = 1 from rfl, Nat.reduceMul, Nat.reduceEqDiff, Go.Addr.add, ↓reduceIte] at hx206_0)
    have qi206 : (1 < (rd_L1 l0 0).length) = True := eq_true (by omega)
    (try rw [show ((1 : Int)).toNat = 1 from rfl] at hx206_0)
    replace p206 := eq_true p206; replace q206 := eq_true q206; have p207 : 0 ≤ (1 : Int) := (by omega); have q207 : 1 < (l0.length : Int) := oD; obtain ⟨ad207, A207_0, c207_0, e207, hx207_0, hl207_0, hi207_0⟩ := at_L1 HR0.out 1 p207 q207; obtain rfl : ad201 = ad207 := (by injection e207)
    (try simp only [show (1 : Int).toNat = 1 from rfl, Nat.reduceMul, Nat.reduceEqDiff, Go.Addr.add, ↓reduceIte] at hx207_0)
    have qi207 : (1 < l0.length) = True := eq_true (by omega)
    (try rw [show ((1 : Int)).toNat = 1 from rfl] at hx207_0)
    have HR207_0 := Aside0.mk hi207_0; have HC207_0 := Aside0.mk hl207_0; clear hi207_0 hl207_0; replace p207 := eq_true p207; replace q207 := eq_true q207; have ea_ := Option.some.inj (hx203_0.symm.trans hx207_0)
    injection ea_ with ea_ en_ ec_
    subst ea_; subst ec_; clear en_; have p208 : 0 ≤ (0 : Int) := (by omega); have q208 : 0 < ((rd_L1 l0 1).length : Int) := oD; obtain ⟨ad208, e208, hx208_0⟩ := Kd.at_int HR207_0.out 0 p208 q208; cases e208; have qi208 : (0 < (rd_L1 l0 1).length) = True := eq_true (by omega)
    (try rw [show ((0 : Int)).toNat = 0 from rfl] at hx208_0)
    (try rw [Addr.add_zero'] at hx208_0)
    replace p208 := eq_true p208; replace q208 := eq_true q208; go_enter Try.func62, Try.ntmps62
    go_wp2
    repeat (go_quiet (fail); try go_wp2)
    go_ret
    exact ⟨by first | rfl | (simp; done) | (simp [*]; done), by repeat (first | exact Drawn0.refl _ | apply Drawn0.step)⟩
  rw [if_neg c5] at H; have c5b0 : ((l0.length : Int) == 2) = false := beq_eq_false_iff_ne.mpr c5; have c5b1 : ((l0.length : Int) != 2) = true := bne_iff_ne.mpr c5; have H' := Aside0.mk H; clear H; go_enter Try.func62, Try.ntmps62
  go_wp2
  repeat (go_quiet (fail); try go_wp2)
  go_loopg [3, 41] k (fun kq v3 v41 w' => ∃ (x3_1 : Int) (x41_1 : Int), v3 = .int .i64 x3_1 ∧ v41 = .int .i64 x41_1 ∧ Aside0 (impl_determinantSign.l0 kq l0 x3_1 x41_1 = some r) ∧ Aside0 (kq ≤ k) ∧ Drawn0 w w')
  case atStart => exact ⟨(0), (0), sR, sR, H', ⟨Nat.le_refl _⟩, by repeat (first | exact Drawn0.refl _ | apply Drawn0.step)⟩
  case round =>
    clear H'; (try clear c2); (try clear c2b0); (try clear c2b1); (try clear c5); (try clear c5b0); (try clear c5b1); obtain ⟨x3_1, x41_1, rfl, rfl, HA, HK1, ⟨m1, rfl⟩⟩ := hrel; cases gk with
    | zero => exact absurd HA.out (by simp [impl_determinantSign.l0])
    | succ k1 =>
      have H := HA.out; clear HA; simp only [impl_determinantSign.l0] at H
      by_cases c12 : x41_1 < 3
      · rw [if_pos c12] at H
        have c12b0 : decide (x41_1 < 3) = true := decide_eq_true c12; clear c12; obtain ⟨c13, H⟩ := ifN H; have c13b0 : decide (0 < (l0.length : Int)) = true := decide_eq_true c13; have c13b1 : decide (0 < l0.length) = true := decide_eq_true (by omega); clear c13; obtain ⟨c14, H⟩ := ifN H; have c14b0 : decide (0 ≤ x41_1) = true := decide_eq_true c14; clear c14; obtain ⟨c15, H⟩ := ifN H; have c15b0 : decide (x41_1 < ((rd_L1 l0 0).length : Int)) = true := decide_eq_true c15; clear c15; obtain ⟨c16, H⟩ := ifN H; have c16b0 : decide (1 < (l0.length : Int)) = true := decide_eq_true c16; have c16b1 : decide (1 < l0.length) = true := decide_eq_true (by omega); clear c16; obtain ⟨ji17, hji17⟩ : ∃ j_ : Int, (Int.tmod (wrap64 (x41_1 + 1)) 3) = j_ := ⟨_, rfl⟩
        replace H : (if 0 ≤ (ji17) then (if (ji17) < ((rd_L1 l0 1).length : Int) then (if 2 < (l0.length : Int) then (if 0 ≤ (Int.tmod (wrap64 (x41_1 + 2)) 3) then (if (Int.tmod (wrap64 (x41_1 + 2)) 3) < ((rd_L1 l0 2).length : Int) then (if (Int.tmod (wrap64 (x41_1 + 2)) 3) < ((rd_L1 l0 1).length : Int) then (if (ji17) < ((rd_L1 l0 2).length : Int) then (impl_determinantSign.l0 k1 l0 (wrap64 (x3_1 + (wrap64 ((rd (rd_L1 l0 0) x41_1) * (wrap64 ((wrap64 ((rd (rd_L1 l0 1) (ji17)) * (rd (rd_L1 l0 2) (Int.tmod (wrap64 (x41_1 + 2)) 3)))) - (wrap64 ((rd (rd_L1 l0 1) (Int.tmod (wrap64 (x41_1 + 2)) 3)) * (rd (rd_L1 l0 2) (ji17)))))))))) (wrap64 (x41_1 + 1))) else (none)) else (none)) else (none)) else (none)) else (none)) else (none)) else (none)) = some r := by first | (rw [hji17] at H; exact H) | (simp only [hji17] at H ⊢; exact H)
        obtain ⟨c18, H⟩ := ifN H; have c18b0 : decide (0 ≤ (ji17)) = true := decide_eq_true c18; clear c18; obtain ⟨c19, H⟩ := ifN H; have c19b0 : decide ((ji17) < ((rd_L1 l0 1).length : Int)) = true := decide_eq_true c19; clear c19; obtain ⟨c20, H⟩ := ifN H; have c20b0 : decide (2 < (l0.length : Int)) = true := decide_eq_true c20; have c20b1 : decide (2 < l0.length) = true := decide_eq_true (by omega); clear c20; obtain ⟨ji21, hji21⟩ : ∃ j_ : Int, (Int.tmod (wrap64 (x41_1 + 2)) 3) = j_ := ⟨_, rfl⟩
        replace H : (if 0 ≤ (ji21) then (if (ji21) < ((rd_L1 l0 2).length : Int) then (if (ji21) < ((rd_L1 l0 1).length : Int) then (if (ji17) < ((rd_L1 l0 2).length : Int) then (impl_determinantSign.l0 k1 l0 (wrap64 (x3_1 + (wrap64 ((rd (rd_L1 l0 0) x41_1) * (wrap64 ((wrap64 ((rd (rd_L1 l0 1) (ji17)) * (rd (rd_L1 l0 2) (ji21)))) - (wrap64 ((rd (rd_L1 l0 1) (ji21)) * (rd (rd_L1 l0 2) (ji17)))))))))) (wrap64 (x41_1 + 1))) else (none)) else (none)) else (none)) else (none)) = some r := by first | (rw [hji21] at H; exact H) | (simp only [hji21] at H ⊢; exact H)
        obtain ⟨c22, H⟩ := ifN H; have c22b0 : decide (0 ≤ (ji21)) = true := decide_eq_true c22; clear c22; obtain ⟨c23, H⟩ := ifN H; have c23b0 : decide ((ji21) < ((rd_L1 l0 2).length : Int)) = true := decide_eq_true c23; clear c23; obtain ⟨c24, H⟩ := ifN H; have c24b0 : decide ((ji21) < ((rd_L1 l0 1).length : Int)) = true := decide_eq_true c24; clear c24; obtain ⟨c25, H⟩ := ifN H; have c25b0 : decide ((ji17) < ((rd_L1 l0 2).length : Int)) = true := decide_eq_true c25; clear c25; have H' := Aside0.mk H; clear H; have p209 : 0 ≤ (0 : Int) := (by omega); have q209 : 0 < (l0.length : Int) := oD; obtain ⟨ad209, A209_0, c209_0, e209, hx209_0, hl209_0, hi209_0⟩ := at_L1 HR0.out 0 p209 q209; cases e209; have qi209 : (0 < l0.length) = True := eq_true (by omega)
        (try rw [show ((0 : Int)).toNat = 0 from rfl] at hx209_0)
        (try rw [Addr.add_zero'] at hx209_0)
        have HR209_0 := Aside0.mk hi209_0; have HC209_0 := Aside0.mk hl209_0; clear hi209_0 hl209_0; replace p209 := eq_true p209; replace q209 := eq_true q209; have p210 : 0 ≤ (x41_1 : Int) := oD; have q210 : x41_1 < ((rd_L1 l0 0).length : Int) := oD; obtain ⟨ad210, e210, hx210_0⟩ := Kd.at_int HR209_0.out x41_1 p210 q210; cases e210; replace p210 := eq_true p210; replace q210 := eq_true q210; have p211 : 0 ≤ (1 : Int) := (by omega); have q211 : 1 < (l0.length : Int) := oD; obtain ⟨ad211, A211_0, c211_0, e211, hx211_0, hl211_0, hi211_0⟩ := at_L1 HR0.out 1 p211 q211; obtain rfl : ad209 = ad211 := (by injection e211)
        (try simp only [show (1 : Int).toNat = 1 from rfl, Nat.reduceMul, Nat.reduceEqDiff, Go.Addr.add, ↓reduceIte] at hx211_0)
        have qi211 : (1 < l0.length) = True := eq_true (by omega)
        (try rw [show ((1 : Int)).toNat = 1 from rfl] at hx211_0)
        have HR211_0 := Aside0.mk hi211_0; have HC211_0 := Aside0.mk hl211_0; clear hi211_0 hl211_0; replace p211 := eq_true p211; replace q211 := eq_true q211; have p212 : 0 ≤ ((ji17) : Int) := oD; have q212 : (ji17) < ((rd_L1 l0 1).length : Int) := oD; obtain ⟨ad212, e212, hx212_0⟩ := Kd.at_int HR211_0.out (ji17) p212 q212; cases e212; replace p212 := eq_true p212; replace q212 := eq_true q212; have p213 : 0 ≤ (2 : Int) := (by omega); have q213 : 2 < (l0.length : Int) := oD; obtain ⟨ad213, A213_0, c213_0, e213, hx213_0, hl213_0, hi213_0⟩ := at_L1 HR0.out 2 p213 q213; obtain rfl : ad209 = ad213 := (by injection e213)
        (try simp only [show (2 : Int).toNat = 2 from rfl, Nat.reduceMul, Nat.reduceEqDiff, Go.Addr.add, ↓reduceIte] at hx213_0)
        have qi213 : (2 < l0.length) = True := eq_true (by omega)
        (try rw [show ((2 : Int)).toNat = 2 from rfl] at hx213_0)
        have HR213_0 := Aside0.mk hi213_0; have HC213_0 := Aside0.mk hl213_0; clear hi213_0 hl213_0; replace p213 := eq_true p213; replace q213 := eq_true q213; have p214 : 0 ≤ ((ji21) : Int) := oD; have q214 : (ji21) < ((rd_L1 l0 2).length : Int) := oD; obtain ⟨ad214, e214, hx214_0⟩ := Kd.at_int HR213_0.out (ji21) p214 q214; cases e214; replace p214 := eq_true p214; replace q214 := eq_true q214; have p215 : 0 ≤ (1 : Int) := (by omega); have q215 : 1 < (l0.length : Int) := oD; obtain ⟨ad215, A215_0, c215_0, e215, hx215_0, hl215_0, hi215_0⟩ := at_L1 HR0.out 1 p215 q215; obtain rfl : ad209 = ad215 := (by injection e215)
        (try simp only [show (1 : Int).toNat = 1 from rfl, Nat.reduceMul, Nat.reduceEqDiff, Go.Addr.add, ↓reduceIte] at hx215_0)
        have qi215 : (1 < l0.length) = True := eq_true (by omega)
        (try rw [show ((1 : Int)).toNat = 1 from rfl] at hx215_0)
        have HR215_0 := Aside0.mk hi215_0; have HC215_0 := Aside0.mk hl215_0; clear hi215_0 hl215_0; replace p215 := eq_true p215; replace q215 := eq_true q215; have ea_ := Option.some.inj (hx211_0.symm.trans hx215_0)
        injection ea_ with ea_ en_ ec_
        subst ea_; subst ec_; clear en_; have p216 : 0 ≤ ((ji21) : Int) := oD; have q216 : (ji21) < ((rd_L1 l0 1).length : Int) := oD; obtain ⟨ad216, e216, hx216_0⟩ := Kd.at_int HR215_0.out (ji21) p216 q216; cases e216; replace p216 := eq_true p216; replace q216 := eq_true q216; have p217 : 0 ≤ (2 : Int) := (by omega); have q217 : 2 < (l0.length : Int) := oD; obtain ⟨ad217, A217_0, c217_0, e217, hx217_0, hl217_0, hi217_0⟩ := at_L1 HR0.out 2 p217 q217; obtain rfl : ad209 = ad217 := (by injection e217)
        (try simp only [show (2 : Int).toNat = 2 from rfl, Nat.reduceMul, Nat.reduceEqDiff, Go.Addr.add, ↓reduceIte] at hx217_0)
        have qi217 : (2 < l0.length) = True := eq_true (by omega)
        (try rw [show ((2 : Int)).toNat = 2 from rfl] at hx217_0)
        have HR217_0 := Aside0.mk hi217_0; have HC217_0 := Aside0.mk hl217_0; clear hi217_0 hl217_0; replace p217 := eq_true p217; replace q217 := eq_true q217; have ea_ := Option.some.inj (hx213_0.symm.trans hx217_0)
        injection ea_ with ea_ en_ ec_
        subst ea_; subst ec_; clear en_; have p218 : 0 ≤ ((ji17) : Int) := oD; have q218 : (ji17) < ((rd_L1 l0 2).length : Int) := oD; obtain ⟨ad218, e218, hx218_0⟩ := Kd.at_int HR217_0.out (ji17) p218 q218; cases e218; replace p218 := eq_true p218; replace q218 := eq_true q218
        go_wp2
        repeat (go_quiet (fail); try go_wp2)
        go_roundg k1
        case measure => have := HK1.out; omega
        case rel => exact ⟨(wrap64 (x3_1 + (wrap64 ((rd (rd_L1 l0 0) x41_1) * (wrap64 ((wrap64 ((rd (rd_L1 l0 1) (ji17)) * (rd (rd_L1 l0 2) (ji21)))) - (wrap64 ((rd (rd_L1 l0 1) (ji21)) * (rd (rd_L1 l0 2) (ji17)))))))))), (wrap64 (x41_1 + 1)), (by first | rfl | (simp; done) | (simp only [← hji17, ← hji21] <;> (first | rfl | simp)) | (simp [*]; done)), sR, H', ⟨by have := HK1.out; omega⟩, by repeat (first | exact Drawn0.refl _ | apply Drawn0.step)⟩
      rw [if_neg c12] at H; have c12b0 : decide (x41_1 < 3) = false := decide_eq_false c12; clear c12; obtain rfl := Option.some.inj H
      go_wp2
      repeat (go_quiet (fail); try go_wp2)
      go_ret
      exact ⟨by first | rfl | (simp; done) | (simp [*]; done), by repeat (first | exact Drawn0.refl _ | apply Drawn0.step)⟩

/-! ### impl_MoveSign: function 20 -/
def impl_MoveSign.f (k : Nat) (l0 : List Int) (l1_0 : List (List Int)) (a1_1 : Int) : Option (Int) := (impl_MoveValid.f k l0 l1_0 a1_1).bind fun t220 => (if t220 = true then ((impl_determinantSign.f k l1_0).bind fun t221 => (if t221 > 0 then (some 1) else (some (-1)))) else (some 0))
theorem impl_MoveSign.mono : ∀ a0 a1 a2 k, LeO (impl_MoveSign.f k a0 a1 a2) (impl_MoveSign.f (k + 1) a0 a1 a2) := by
  intro a0 a1 a2 k
  unfold impl_MoveSign.f
  repeat' first
      | (with_reducible exact impl_MoveValid.mono _ _ _ _)
      | (with_reducible exact impl_determinantSign.mono _ _)
      | (with_reducible exact LeO.refl _)
      | (with_reducible exact LeO.none _)
      | (with_reducible refine LeO.ite ?_ ?_)
      | (with_reducible refine LeO.bind ?_ (fun _ => ?_))
      | exact impl_MoveValid.mono _ _ _ _
      | exact impl_determinantSign.mono _ _
      | exact LeO.none _
      | refine LeO.ite ?_ ?_
      | refine LeO.bind ?_ (fun _ => ?_)
set_option maxHeartbeats 8000000 in
set_option maxRecDepth 100000 in
theorem impl_MoveSign.calls (k : Nat) (A0 : Option Addr) (c0 : Nat) (l0 : List Int) (A1_0 : Option Addr) (c1_0 : Nat) (l1_0 : List (List Int)) (a1_1 : Int) (r : Int) (w : World) (hr0 : Kd.C (Kd.int .i64) w A0 l0.length l0) (hc0 : l0.length ≤ c0) (hr1_0 : Kd.C (Kd.slice 3 (Kd.int .i64)) w A1_0 l1_0.length l1_0) (hc1_0 : l1_0.length ≤ c1_0) (h : impl_MoveSign.f k l0 l1_0 a1_1 = some r) :
    Calls Try.prog 20 #[.slice A0 l0.length c0, .agg #[.slice A1_0 l1_0.length c1_0, .int .i64 a1_1]] w fun e w' => e = .returned (.int .i64 r) ∧ Below w.heap.size w w' := by
  have hu27 := Try.underlying27; have HR0 := Aside0.mk hr0; have HC0 := Aside0.mk hc0; clear hr0 hc0; have HR1_0 := Aside0.mk hr1_0; have HC1_0 := Aside0.mk hc1_0; clear hr1_0 hc1_0; have HB := Aside0.mk (Below.refl w.heap.size w); unfold impl_MoveSign.f at h; have H := h; clear h; obtain ⟨t220, A3, H⟩ := bnd H
  by_cases c4 : t220 = true
  · subst c4
    replace H := ifT H; obtain ⟨t221, A5, H⟩ := bnd H
    by_cases c6 : t221 > 0
    · rw [if_pos c6] at H
      have c6b0 : decide (0 < t221) = true := decide_eq_true c6; clear c6; obtain rfl := Option.some.inj H; go_enter Try.func20, Try.ntmps20
      go_wp2_with (first | ((with_reducible refine gate_dst (N := 3) rfl ?_); refine boxE (N := 3) (cs := #[.slice A1_0 l1_0.length c1_0, .int .i64 a1_1]) (t := 27) ?_; intro gb219 hg w7 hbox hb; have BK219 := Aside0.mk (hbox); have GW219 := GS w hg; have GE219 := GS w hg; replace HB := BS hb; clear hb hbox hg; obtain ⟨hcz8_0, hcz8_1, hfz8_0, hfz8_1⟩ := bcf BK219) | ((with_reducible refine gate_callee (f := 21) rfl ?_); refine goesK (some 7) Try.func21 #[.slice A0 l0.length c0, .agg #[.slice A1_0 l1_0.length c1_0, .int .i64 a1_1]] ?_; (with_reducible refine (impl_MoveValid.calls k _ _ l0 _ _ l1_0 a1_1 true _ ?side1 ?side2 ?side3 ?side4 A3.out).mono ?_); (case side1 => exact U (Kd.C_below HR0.out HB.out)); (case side2 => exact HC0.out); (case side3 => exact U (Kd.C_below HR1_0.out HB.out)); (case side4 => exact HC1_0.out); rintro e w9 ⟨rfl, hb⟩; refine ⟨_, rfl, ?_⟩; replace BK219 := bB BK219 hb; replace HB := BS hb; (try clear hb); obtain ⟨hcz10_0, hcz10_1, hfz10_0, hfz10_1⟩ := bcf BK219) | ((with_reducible refine gate_callee (f := 62) rfl ?_); refine goesK (some 11) Try.func62 #[.slice A1_0 l1_0.length c1_0] ?_; (with_reducible refine (impl_determinantSign.calls k _ _ l1_0 t221 _ ?side1 ?side2 A5.out).mono ?_); (case side1 => exact U (Kd.C_below HR1_0.out HB.out)); (case side2 => exact HC1_0.out); rintro e w' ⟨rfl, ⟨nd, rfl⟩⟩; refine ⟨_, rfl, ?_⟩))
      go_ret
      exact ⟨eR, BU⟩
    · rw [if_neg c6] at H
      have c6b0 : decide (0 < t221) = false := decide_eq_false c6; clear c6; obtain rfl := Option.some.inj H; go_enter Try.func20, Try.ntmps20
      go_wp2_with (first | ((with_reducible refine gate_dst (N := 3) rfl ?_); refine boxE (N := 3) (cs := #[.slice A1_0 l1_0.length c1_0, .int .i64 a1_1]) (t := 27) ?_; intro gb219 hg w11 hbox hb; have BK219 := Aside0.mk (hbox); have GW219 := GS w hg; have GE219 := GS w hg; replace HB := BS hb; clear hb hbox hg; obtain ⟨hcz12_0, hcz12_1, hfz12_0, hfz12_1⟩ := bcf BK219) | ((with_reducible refine gate_callee (f := 21) rfl ?_); refine goesK (some 7) Try.func21 #[.slice A0 l0.length c0, .agg #[.slice A1_0 l1_0.length c1_0, .int .i64 a1_1]] ?_; (with_reducible refine (impl_MoveValid.calls k _ _ l0 _ _ l1_0 a1_1 true _ ?side1 ?side2 ?side3 ?side4 A3.out).mono ?_); (case side1 => exact U (Kd.C_below HR0.out HB.out)); (case side2 => exact HC0.out); (case side3 => exact U (Kd.C_below HR1_0.out HB.out)); (case side4 => exact HC1_0.out); rintro e w13 ⟨rfl, hb⟩; refine ⟨_, rfl, ?_⟩; replace BK219 := bB BK219 hb; replace HB := BS hb; (try clear hb); obtain ⟨hcz14_0, hcz14_1, hfz14_0, hfz14_1⟩ := bcf BK219) | ((with_reducible refine gate_callee (f := 62) rfl ?_); refine goesK (some 11) Try.func62 #[.slice A1_0 l1_0.length c1_0] ?_; (with_reducible refine (impl_determinantSign.calls k _ _ l1_0 t221 _ ?side1 ?side2 A5.out).mono ?_); (case side1 => exact U (Kd.C_below HR1_0.out HB.out)); (case side2 => exact HC1_0.out); rintro e w' ⟨rfl, ⟨nd, rfl⟩⟩; refine ⟨_, rfl, ?_⟩))
      go_ret
      exact ⟨eR, BU⟩
  · replace c4 := Bool.eq_false_iff.mpr c4
    subst c4; replace H := ifF H; obtain rfl := Option.some.inj H; go_enter Try.func20, Try.ntmps20
    go_wp2_with (first | ((with_reducible refine gate_dst (N := 3) rfl ?_); refine boxE (N := 3) (cs := #[.slice A1_0 l1_0.length c1_0, .int .i64 a1_1]) (t := 27) ?_; intro gb219 hg w15 hbox hb; have BK219 := Aside0.mk (hbox); have GW219 := GS w hg; have GE219 := GS w hg; replace HB := BS hb; clear hb hbox hg; obtain ⟨hcz16_0, hcz16_1, hfz16_0, hfz16_1⟩ := bcf BK219) | ((with_reducible refine gate_callee (f := 21) rfl ?_); refine goesK (some 7) Try.func21 #[.slice A0 l0.length c0, .agg #[.slice A1_0 l1_0.length c1_0, .int .i64 a1_1]] ?_; (with_reducible refine (impl_MoveValid.calls k _ _ l0 _ _ l1_0 a1_1 false _ ?side1 ?side2 ?side3 ?side4 A3.out).mono ?_); (case side1 => exact U (Kd.C_below HR0.out HB.out)); (case side2 => exact HC0.out); (case side3 => exact U (Kd.C_below HR1_0.out HB.out)); (case side4 => exact HC1_0.out); rintro e w17 ⟨rfl, hb⟩; refine ⟨_, rfl, ?_⟩; replace BK219 := bB BK219 hb; replace HB := BS hb; (try clear hb)))
    go_ret
    exact ⟨eR, BU⟩

/-- A state of type 83 at block g of W; what its slices lead to came in by w0. -/
def IsS83 (w0 W : World) (g : Nat) (f0 : List Int) (f1 : Int) : Prop := ∃ A0 c0, W.heap[g]? = some (.cells #[.slice A0 f0.length c0, .int .i64 f1] 83 (0, 0)) ∧ w0.heap.size ≤ g ∧ Kd.C (Kd.int .u8) w0 A0 f0.length f0
theorem IsS83.grown {w0 W : World} {g : Nat} {f0 : List Int} {f1 : Int} {W1 : World} {row : Option Nat} (h : IsS83 w0 W g f0 f1) (hw : W.grownBy W1 row) (hne : some g ≠ row) : IsS83 w0 W1 g f0 f1 := by
  obtain ⟨A0, c0, hb, hg, hr0⟩ := h
  exact ⟨A0, c0, blk_grown hb hw hne, hg, hr0⟩
theorem IsS83.own_neN {w0 W : World} {g : Nat} {f0 : List Int} {f1 : Int} {α : Type} {d : Kd α} {e : Nat} {base : Nat} {ok : Nat → Prop} {v : Value} {xs : List α} (h : IsS83 w0 W g f0 f1) (ho : Kd.N d e W base ok v xs) (ht : e ≠ 83) : some g ≠ v.ownBlock := by
  obtain ⟨A0, c0, hb, hg, hr0⟩ := h
  exact Kd.N_ne ho hb ht
theorem IsS83.fresh {w0 W : World} {g : Nat} {f0 : List Int} {f1 : Int} (h : IsS83 w0 W g f0 f1) : ∀ k, W.heap.size ≤ k → k ≠ g := by
  obtain ⟨A0, c0, hb, hg, hr0⟩ := h
  exact Kd.freshB hb
theorem IsS83.kept {w0 W : World} {g : Nat} {f0 : List Int} {f1 : Int} {W1 : World} {S : Nat → Prop} (h : IsS83 w0 W g f0 f1) (hk : Kept W W1 S) (hne : ¬ S g) : IsS83 w0 W1 g f0 f1 := by
  obtain ⟨A0, c0, hb, hg, hr0⟩ := h
  exact ⟨A0, c0, blk_kept hb hk hne, hg, hr0⟩
theorem IsS83.below {w0 W : World} {g : Nat} {f0 : List Int} {f1 : Int} {W1 : World} (h : IsS83 w0 W g f0 f1) (hw : Below W.heap.size W W1) : IsS83 w0 W1 g f0 f1 := h.grown (grown_of_below hw none) (by simp)
theorem IsS83.alloc {w0 W : World} {g : Nat} {f0 : List Int} {f1 : Int} (h : IsS83 w0 W g f0 f1) (o : Obj) : IsS83 w0 (W.alloc o) g f0 f1 := h.below (below_alloc (Below.refl _ _) o)
theorem IsS83.drewN {w0 W : World} {g : Nat} {f0 : List Int} {f1 : Int} (h : IsS83 w0 W g f0 f1) (m : Nat) : IsS83 w0 (W.drewN m) g f0 f1 := h
theorem IsS83.drew {w0 W : World} {g : Nat} {f0 : List Int} {f1 : Int} (h : IsS83 w0 W g f0 f1) : IsS83 w0 W.drew g f0 f1 := h
theorem IsS83.at_ {w0 W : World} {g : Nat} {f0 : List Int} {f1 : Int} {w' : World} {m : Nat} (hq : W.drewN m = w') (h : IsS83 w0 W g f0 f1) : IsS83 w0 w' g f0 f1 := by subst hq; exact IsS83.drewN h m
theorem IsS83.apart {w0 W : World} {g : Nat} {f0 : List Int} {f1 : Int} {α : Type} {d : Kd α} {e : Nat} {base : Nat} {ok : Nat → Prop} {v : Value} {xs : List α} (h : IsS83 w0 W g f0 f1) (ho : d.R e W base ok v xs) (ht : ∀ q, q ∈ e :: d.E → q ≠ 83) : d.R e W base (fun k => ok k ∧ k ≠ g) v xs := by
  obtain ⟨A0, c0, hb, hg, hr0⟩ := h
  exact Kd.R_types ho hb ht
theorem IsS83.own_ne {w0 W : World} {g : Nat} {f0 : List Int} {f1 : Int} {α : Type} {d : Kd α} {e : Nat} {base : Nat} {ok : Nat → Prop} {v : Value} {xs : List α} (h : IsS83 w0 W g f0 f1) (ho : d.R e W base ok v xs) (ht : e ≠ 83) : some g ≠ v.ownBlock := by
  obtain ⟨A0, c0, hb, hg, hr0⟩ := h
  exact Kd.R_ne ho hb ht
theorem IsS83.apartQ {w0 W : World} {g : Nat} {f0 : List Int} {f1 : Int} {α : Type} {d : Kd α} {e : Nat} {base : Nat} {ok : Nat → Prop} {v : Value} {xs : List α} (h : IsS83 w0 W g f0 f1) (ho : d.Q e W base ok v xs) (ht : ∀ q, q ∈ e :: d.E → q ≠ 83) : d.Q e W base (fun k => ok k ∧ k ≠ g) v xs := by
  obtain ⟨A0, c0, hb, hg, hr0⟩ := h
  exact Kd.Q_types ho hb ht
theorem IsS83.own_neQ {w0 W : World} {g : Nat} {f0 : List Int} {f1 : Int} {α : Type} {d : Kd α} {e : Nat} {base : Nat} {ok : Nat → Prop} {v : Value} {xs : List α} (h : IsS83 w0 W g f0 f1) (ho : d.Q e W base ok v xs) (ht : e ≠ 83) : some g ≠ v.ownBlock := by
  obtain ⟨A0, c0, hb, hg, hr0⟩ := h
  exact Kd.Q_ne ho hb ht
theorem IsS83.apartS {w0 W : World} {g : Nat} {f0 : List Int} {f1 : Int} {α : Type} {d : Kd α} {e : Nat} {base : Nat} {ok : Nat → Prop} {v : Value} {xs : List α} (h : IsS83 w0 W g f0 f1) (ho : d.S e W base ok v xs) (ht : ∀ q, q ∈ e :: d.E → q ≠ 83) : d.S e W base (fun k => ok k ∧ k ≠ g) v xs := by
  obtain ⟨A0, c0, hb, hg, hr0⟩ := h
  exact Kd.S_types ho hb ht
theorem IsS83.own_neS {w0 W : World} {g : Nat} {f0 : List Int} {f1 : Int} {α : Type} {d : Kd α} {e : Nat} {base : Nat} {ok : Nat → Prop} {v : Value} {xs : List α} (h : IsS83 w0 W g f0 f1) (ho : d.S e W base ok v xs) (ht : e ≠ 83) : some g ≠ v.ownBlock := by
  obtain ⟨A0, c0, hb, hg, hr0⟩ := h
  exact Kd.S_ne ho hb ht
theorem IsS83.lt {w0 W : World} {g : Nat} {f0 : List Int} {f1 : Int} (h : IsS83 w0 W g f0 f1) : g < W.heap.size := by
  obtain ⟨A0, c0, hb, hg, hr0⟩ := h
  exact blk_lt hb
theorem IsS83.ge {w0 W : World} {g : Nat} {f0 : List Int} {f1 : Int} (h : IsS83 w0 W g f0 f1) : w0.heap.size ≤ g := by
  obtain ⟨A0, c0, hb, hg, hr0⟩ := h
  exact hg
theorem IsS83.ne_blk {w0 W : World} {g : Nat} {f0 : List Int} {f1 : Int} {a : Nat} {cs : Array Value} {t : TypeId} {fr : Nat × Nat} (h : IsS83 w0 W g f0 f1) (hb2 : W.heap[a]? = some (.cells cs t fr)) (ht : t ≠ 83) : g ≠ a := by
  obtain ⟨A0, c0, hb, hg, hr0⟩ := h
  rintro rfl
  rw [hb] at hb2
  injection hb2 with hb2
  injection hb2 with _ ht2
  exact ht ht2.symm
theorem IsS83.far {w0 W : World} {g : Nat} {f0 : List Int} {f1 : Int} {p : Addr} (h : IsS83 w0 W g f0 f1) (hne : g ≠ p.block) (u : Value) : IsS83 w0 (W.setCell p u) g f0 f1 := by
  obtain ⟨A0, c0, hb, hg, hr0⟩ := h
  exact ⟨A0, c0, blk_far hb hne u, hg, hr0⟩
theorem cellS83_0 {W : World} {g : Nat} {A0 : Option Addr} {c0 : Nat} {f0 : List Int} {f1 : Int} (h : W.heap[g]? = some (.cells #[.slice A0 f0.length c0, .int .i64 f1] 83 (0, 0))) : W.cell? ⟨g, 0, none⟩ = some (.slice A0 f0.length c0) := (blk_cell h 0).trans rfl
theorem cellS83_1 {W : World} {g : Nat} {A0 : Option Addr} {c0 : Nat} {f0 : List Int} {f1 : Int} (h : W.heap[g]? = some (.cells #[.slice A0 f0.length c0, .int .i64 f1] 83 (0, 0))) : W.cell? ⟨g, 1, none⟩ = some (.int .i64 f1) := (blk_cell h 1).trans rfl
theorem IsS83.set_1 {w0 W : World} {g : Nat} {f0 : List Int} {f1 : Int} (h : IsS83 w0 W g f0 f1) (x : Int) : IsS83 w0 (W.setCell ⟨g, 1, none⟩ (.int .i64 x)) g f0 x := by
  obtain ⟨A0, c0, hb, hg, hr0⟩ := h
  exact ⟨A0, c0, by simpa using blk_set hb 1 (.int .i64 x), hg, hr0⟩
theorem IsS83.new (w0 W : World) (A0 : Option Addr) (c0 : Nat) (f0 : List Int) (f1 : Int) (hB : Below w0.heap.size w0 W) (hr0 : Kd.C (Kd.int .u8) w0 A0 f0.length f0) : IsS83 w0 (W.alloc (.cells #[.slice A0 f0.length c0, .int .i64 f1] 83)) W.heap.size f0 f1 := ⟨A0, c0, by simpa using heap_alloc_new W _, hB.size, hr0⟩

/-! ### spec_l6Open: function 51 -/
def spec_l6Open.f (l0 : List Int) : Option (List Int × Int) := if (l0.length : Int) > 2000 then (if 2000 ≤ (l0.length : Int) then (some (l0.take 2000, 0)) else (none)) else (some (l0, 0))
set_option maxHeartbeats 8000000 in
set_option maxRecDepth 100000 in
theorem spec_l6Open.calls (A0 : Option Addr) (c0 : Nat) (l0 : List Int) (r1 : List Int) (r2 : Int) (w0 w : World) (hB : Below w0.heap.size w0 w) (hr0 : Kd.C (Kd.int .u8) w0 A0 l0.length l0) (hc0 : l0.length ≤ c0) (h : spec_l6Open.f l0 = some (r1, r2)) :
    Calls Try.prog 51 #[.slice A0 l0.length c0] w fun e w' => ∃ g_ : Nat, e = .returned (.pointer (some ⟨g_, 0, none⟩)) ∧ IsS83 w0 w' g_ r1 r2 ∧ Below w0.heap.size w0 w' ∧ Below w.heap.size w w' := by
  have hu83 := Try.underlying83; have HR0 := Aside0.mk hr0; have HC0 := Aside0.mk hc0; clear hr0 hc0; have HBW := Aside0.mk (Below.refl w.heap.size w); have HW0 := Aside0.mk hB.size; have HB := Aside0.mk hB; clear hB; unfold spec_l6Open.f at h; have H := h; clear h
  by_cases c2 : (l0.length : Int) > 2000
  · rw [if_pos c2] at H
    have c2b0 : decide (2000 < (l0.length : Int)) = true := decide_eq_true c2; have c2b1 : decide (2000 < l0.length) = true := decide_eq_true (by omega); clear c2; obtain ⟨c3, H⟩ := ifN H; have c3b0 := eq_true c3; have c3b1 : decide (2000 ≤ (l0.length : Int)) = true := decide_eq_true c3; clear c3; simp only [Option.some.injEq, Prod.mk.injEq] at H; obtain ⟨rfl, rfl⟩ := H; obtain ⟨i04, hi04, _, hsz4, _⟩ := info_parts info5; obtain ⟨hcut4, hA4, hC4⟩ := print_take_of (P := Try.prog) (Value.int .u8) 0 22 5 .i64 Try.underlying22 hi04 hsz4 A0 c0 l0 2000 (by omega) (oD) HC0.out; have HR222 := Aside0.mk (Kd.C_of_reads (h1 := fun _ => rfl) (hA4 _ (Kd.reads_of_C HR0.out))); have HC222 := Aside0.mk hC4; clear hA4 hC4 hi04 hsz4; go_enter Try.func51, Try.ntmps51
    go_wp2_with (first | ((with_reducible refine gate_dst (N := 10) rfl ?_); refine boxE (N := 10) (cs := #[.slice A0 (l0.take 2000).length c0, .int .i64 0]) (t := 83) ?_; intro gb223 hg w5 hbox hb; replace HB := BS hb; have BK223 := Aside0.mk (hbox); have GW223 := Aside0.mk ((by rw [hg]; exact (below_size (by repeat (first | (with_reducible first | exact HBW.out | apply below_alloc | apply pw_below_drewN | apply below_drew1) | exact HBW.out))) : w.heap.size ≤ gb223)); have GE223 := Aside0.mk ((Nat.le_trans HW0.out (by rw [hg]; exact (below_size (by repeat (first | (with_reducible first | exact HBW.out | apply below_alloc | apply pw_below_drewN | apply below_drew1) | exact HBW.out))) : w.heap.size ≤ gb223) : w0.heap.size ≤ gb223)); replace HBW := Aside0.mk (below_step HBW.out hb); clear hb hbox hg))
    go_ret
    exact ⟨_, rfl, (show IsS83 w0 _ gb223 (l0.take 2000) 0 from ⟨_, _, U BK223.out, GE223.out, HR222.out⟩), BU, by repeat (first | (with_reducible first | exact HBW.out | apply below_alloc | apply pw_below_drewN | apply below_drew1 | refine below_set ?_ GW223.out) | exact HBW.out)⟩
  rw [if_neg c2] at H; have c2b0 : decide (2000 < (l0.length : Int)) = false := decide_eq_false c2; have c2b1 : decide (2000 < l0.length) = false := decide_eq_false (by omega); clear c2; simp only [Option.some.injEq, Prod.mk.injEq] at H; obtain ⟨rfl, rfl⟩ := H; go_enter Try.func51, Try.ntmps51
  go_wp2_with (first | ((with_reducible refine gate_dst (N := 10) rfl ?_); refine boxE (N := 10) (cs := #[.slice A0 l0.length c0, .int .i64 0]) (t := 83) ?_; intro gb224 hg w6 hbox hb; replace HB := BS hb; have BK224 := Aside0.mk (hbox); have GW224 := Aside0.mk ((by rw [hg]; exact (below_size (by repeat (first | (with_reducible first | exact HBW.out | apply below_alloc | apply pw_below_drewN | apply below_drew1) | exact HBW.out))) : w.heap.size ≤ gb224)); have GE224 := Aside0.mk ((Nat.le_trans HW0.out (by rw [hg]; exact (below_size (by repeat (first | (with_reducible first | exact HBW.out | apply below_alloc | apply pw_below_drewN | apply below_drew1) | exact HBW.out))) : w.heap.size ≤ gb224) : w0.heap.size ≤ gb224)); replace HBW := Aside0.mk (below_step HBW.out hb); clear hb hbox hg))
  go_ret
  exact ⟨_, rfl, (show IsS83 w0 _ gb224 l0 0 from ⟨_, _, U BK224.out, GE224.out, HR0.out⟩), BU, by repeat (first | (with_reducible first | exact HBW.out | apply below_alloc | apply pw_below_drewN | apply below_drew1 | refine below_set ?_ GW224.out) | exact HBW.out)⟩

end Go.Proofs.Ytnbeeogmaamgdaa.PFnOf
