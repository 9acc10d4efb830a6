-- Written by a program of this session (wip/print2.py): the functions that the law reaches, plain, and the walks.
import Derived.Test.YtnbeeogmaamgdaaPFnSignx0
import Derived.Test.YtnbeeogmaamgdaaPFnSignx8
namespace Go.Proofs.Ytnbeeogmaamgdaa.PFnSign
open Go.RowKit Go.Proofs.YtnbeeogmaamgdaaW.PrintWords Go.Proofs.YtnbeeogmaamgdaaW.PrintLast Go.Proofs.YtnbeeogmaamgdaaW.PrintMore
attribute [local go_sem] max2_int min2_int max_two min_two max_three min_three max_four min_four   -- for this text's walks alone
set_option linter.unusedVariables false
set_option linter.unusedSimpArgs false

/-! ### spec_l7Det: function 83 -/
def spec_l7Det.l0 : Nat → List (List Int) → Int → Int → Option (Int)
  | 0, _, _, _ => none
  | k + 1, x0, x3, x4 => if x4 < 3 then (if 1 < (x0.length : Int) then (if 0 ≤ (Int.tmod (wrap64 (x4 + 1)) 3) then (if (Int.tmod (wrap64 (x4 + 1)) 3) < ((rd_L1 x0 1).length : Int) then (if 2 < (x0.length : Int) then (if 0 ≤ (Int.tmod (wrap64 (x4 + 2)) 3) then (if (Int.tmod (wrap64 (x4 + 2)) 3) < ((rd_L1 x0 2).length : Int) then (if (Int.tmod (wrap64 (x4 + 2)) 3) < ((rd_L1 x0 1).length : Int) then (if (Int.tmod (wrap64 (x4 + 1)) 3) < ((rd_L1 x0 2).length : Int) then (if 0 < (x0.length : Int) then (if 0 ≤ x4 then (if x4 < ((rd_L1 x0 0).length : Int) then (spec_l7Det.l0 k x0 (wrap64 (x3 + (wrap64 ((rd (rd_L1 x0 0) x4) * (wrap64 ((wrap64 ((rd (rd_L1 x0 1) (Int.tmod (wrap64 (x4 + 1)) 3)) * (rd (rd_L1 x0 2) (Int.tmod (wrap64 (x4 + 2)) 3)))) - (wrap64 ((rd (rd_L1 x0 1) (Int.tmod (wrap64 (x4 + 2)) 3)) * (rd (rd_L1 x0 2) (Int.tmod (wrap64 (x4 + 1)) 3)))))))))) (wrap64 (x4 + 1))) else (none)) else (none)) else (none)) else (none)) else (none)) else (none)) else (none)) else (none)) else (none)) else (none)) else (none)) else (some x3)
def spec_l7Det.f (k : Nat) (l0 : List (List Int)) : Option (Int) := if (l0.length : Int) = 1 then (if 0 < (l0.length : Int) then (if 0 < ((rd_L1 l0 0).length : Int) then (some (rd (rd_L1 l0 0) 0)) else (none)) else (none)) else (if (l0.length : Int) = 2 then (if 0 < (l0.length : Int) then (if 0 < ((rd_L1 l0 0).length : Int) then (if 1 < (l0.length : Int) then (if 1 < ((rd_L1 l0 1).length : Int) then (if 1 < ((rd_L1 l0 0).length : Int) then (if 0 < ((rd_L1 l0 1).length : Int) then (some (wrap64 ((wrap64 ((rd (rd_L1 l0 0) 0) * (rd (rd_L1 l0 1) 1))) - (wrap64 ((rd (rd_L1 l0 0) 1) * (rd (rd_L1 l0 1) 0)))))) else (none)) else (none)) else (none)) else (none)) else (none)) else (none)) else (spec_l7Det.l0 k l0 0 0))
theorem spec_l7Det.mono_l : ∀ k, (∀ y0 y1 y2, LeO (spec_l7Det.l0 k y0 y1 y2) (spec_l7Det.l0 (k + 1) y0 y1 y2))
  | 0 => fun _ _ _ r h => by simp [spec_l7Det.l0] at h
  | k + 1 => by
    have ih0 := spec_l7Det.mono_l k
    · intro y0 y1 y2
      unfold spec_l7Det.l0
      repeat' first
      | (with_reducible exact ih0 _ _ _)
      | (with_reducible exact LeO.refl _)
      | (with_reducible exact LeO.none _)
      | (with_reducible refine LeO.ite ?_ ?_)
      | (with_reducible refine LeO.bind ?_ (fun _ => ?_))
      | exact ih0 _ _ _
      | exact LeO.none _
      | refine LeO.ite ?_ ?_
      | refine LeO.bind ?_ (fun _ => ?_)
theorem spec_l7Det.mono : ∀ a0 k, LeO (spec_l7Det.f k a0) (spec_l7Det.f (k + 1) a0) := by
  intro a0 k
  have ih0 := spec_l7Det.mono_l k
  unfold spec_l7Det.f
  repeat' first
      | (with_reducible exact ih0 _ _ _)
      | (with_reducible exact LeO.refl _)
      | (with_reducible exact LeO.none _)
      | (with_reducible refine LeO.ite ?_ ?_)
      | (with_reducible refine LeO.bind ?_ (fun _ => ?_))
      | exact ih0 _ _ _
      | exact LeO.none _
      | refine LeO.ite ?_ ?_
      | refine LeO.bind ?_ (fun _ => ?_)
set_option maxHeartbeats 8000000 in
set_option maxRecDepth 100000 in
theorem spec_l7Det.calls (k : Nat) (A0 : Option Addr) (c0 : Nat) (l0 : List (List Int)) (r : Int) (w : World) (hr0 : Kd.C (Kd.slice 3 (Kd.int .i64)) w A0 l0.length l0) (hc0 : l0.length ≤ c0) (h : spec_l7Det.f k l0 = some r) :
    Calls Try.prog 83 #[.slice A0 l0.length c0] w fun e w' => e = .returned (.int .i64 r) ∧ Drawn0 w w' := by
  have HR0 := Aside0.mk hr0; have HC0 := Aside0.mk hc0; clear hr0 hc0; unfold spec_l7Det.f at h; have H := h; clear h
  by_cases c2 : (l0.length : Int) = 1
  · rw [if_pos c2] at H
    have c2b0 : ((l0.length : Int) == 1) = true := beq_iff_eq.mpr c2; have c2b1 : ((l0.length : Int) != 1) = false := bne_eq_false_iff_eq.mpr c2; clear c2; obtain ⟨c3, H⟩ := ifN H; have c3b0 : decide (0 < (l0.length : Int)) = true := decide_eq_true c3; have c3b1 : decide (0 < l0.length) = true := decide_eq_true (by omega); clear c3; obtain ⟨c4, H⟩ := ifN H; have c4b0 : decide (0 < ((rd_L1 l0 0).length : Int)) = true := decide_eq_true c4; have c4b1 : decide (0 < (rd_L1 l0 0).length) = true := decide_eq_true (by omega); clear c4; obtain rfl := Option.some.inj H; have p471 : 0 ≤ (0 : Int) := (by omega); have q471 : 0 < (l0.length : Int) := oD; obtain ⟨ad471, A471_0, c471_0, e471, hx471_0, hl471_0, hi471_0⟩ := at_L1 HR0.out 0 p471 q471; cases e471; have qi471 : (0 < l0.length) = True := eq_true (by omega)
    (try rw [show ((0 : Int)).toNat = 0 from rfl] at hx471_0)
    (try rw [Addr.add_zero'] at hx471_0)
    have HR471_0 := Aside0.mk hi471_0; have HC471_0 := Aside0.mk hl471_0; clear hi471_0 hl471_0; replace p471 := eq_true p471; replace q471 := eq_true q471; have p472 : 0 ≤ (0 : Int) := (by omega); have q472 : 0 < ((rd_L1 l0 0).length : Int) := oD; obtain ⟨ad472, e472, hx472_0⟩ := Kd.at_int HR471_0.out 0 p472 q472; cases e472; have qi472 : (0 < (rd_L1 l0 0).length) = True := eq_true (by omega)
    (try rw [show ((0 : Int)).toNat = 0 from rfl] at hx472_0)
    (try rw [Addr.add_zero'] at hx472_0)
    replace p472 := eq_true p472; replace q472 := eq_true q472; go_enter Try.func83, Try.ntmps83
    go_wp2
    repeat (go_quiet (fail); try go_wp2)
    go_ret
    exact ⟨by first | rfl | (simp; done) | (simp [*]; done), by repeat (first | exact Drawn0.refl _ | apply Drawn0.step)⟩
  rw [if_neg c2] at H; have c2b0 : ((l0.length : Int) == 1) = false := beq_eq_false_iff_ne.mpr c2; have c2b1 : ((l0.length : Int) != 1) = true := bne_iff_ne.mpr c2
  by_cases c5 : (l0.length : Int) = 2
  · rw [if_pos c5] at H
    have c5b0 : ((l0.length : Int) == 2) = true := beq_iff_eq.mpr c5; have c5b1 : ((l0.length : Int) != 2) = false := bne_eq_false_iff_eq.mpr c5; clear c5; obtain ⟨c6, H⟩ := ifN H; have c6b0 : decide (0 < (l0.length : Int)) = true := decide_eq_true c6; have c6b1 : decide (0 < l0.length) = true := decide_eq_true (by omega); clear c6; obtain ⟨c7, H⟩ := ifN H; have c7b0 : decide (0 < ((rd_L1 l0 0).length : Int)) = true := decide_eq_true c7; have c7b1 : decide (0 < (rd_L1 l0 0).length) = true := decide_eq_true (by omega); clear c7; obtain ⟨c8, H⟩ := ifN H; have c8b0 : decide (1 < (l0.length : Int)) = true := decide_eq_true c8; have c8b1 : decide (1 < l0.length) = true := decide_eq_true (by omega); clear c8; obtain ⟨c9, H⟩ := ifN H; have c9b0 : decide (1 < ((rd_L1 l0 1).length : Int)) = true := decide_eq_true c9; have c9b1 : decide (1 < (rd_L1 l0 1).length) = true := decide_eq_true (by omega); clear c9; obtain ⟨c10, H⟩ := ifN H; have c10b0 : decide (1 < ((rd_L1 l0 0).length : Int)) = true := decide_eq_true c10; have c10b1 : decide (1 < (rd_L1 l0 0).length) = true := decide_eq_true (by omega); clear c10; obtain ⟨c11, H⟩ := ifN H; have c11b0 : decide (0 < ((rd_L1 l0 1).length : Int)) = true := decide_eq_true c11; have c11b1 : decide (0 < (rd_L1 l0 1).length) = true := decide_eq_true (by omega); clear c11; obtain rfl := Option.some.inj H; have p473 : 0 ≤ (0 : Int) := (by omega); have q473 : 0 < (l0.length : Int) := oD; obtain ⟨ad473, A473_0, c473_0, e473, hx473_0, hl473_0, hi473_0⟩ := at_L1 HR0.out 0 p473 q473; cases e473; have qi473 : (0 < l0.length) = True := eq_true (by omega)
    (try rw [show ((0 : Int)).toNat = 0 from rfl] at hx473_0)
    (try rw [Addr.add_zero'] at hx473_0)
    have HR473_0 := Aside0.mk hi473_0; have HC473_0 := Aside0.mk hl473_0; clear hi473_0 hl473_0; replace p473 := eq_true p473; replace q473 := eq_true q473; have p474 : 0 ≤ (0 : Int) := (by omega); have q474 : 0 < ((rd_L1 l0 0).length : Int) := oD; obtain ⟨ad474, e474, hx474_0⟩ := Kd.at_int HR473_0.out 0 p474 q474; cases e474; have qi474 : (0 < (rd_L1 l0 0).length) = True := eq_true (by omega)
    (try rw [show ((0 : Int)).toNat = 0 from rfl] at hx474_0)
    (try rw [Addr.add_zero'] at hx474_0)
    replace p474 := eq_true p474; replace q474 := eq_true q474; have p475 : 0 ≤ (1 : Int) := (by omega); have q475 : 1 < (l0.length : Int) := oD; obtain ⟨ad475, A475_0, c475_0, e475, hx475_0, hl475_0, hi475_0⟩ := at_L1 HR0.out 1 p475 q475; obtain rfl : ad473 = ad475 := (by injection e475)
    (try simp only [show (1 : Int).toNat = 1 from rfl, Nat.reduceMul, Nat.reduceEqDiff, Go.Addr.add, ↓reduceIte] at hx475_0)
    have qi475 : (1 < l0.length) = True := eq_true (by omega)
    (try rw [show ((1 : Int)).toNat = 1 from rfl] at hx475_0)
    have HR475_0 := Aside0.mk hi475_0; have HC475_0 := Aside0.mk hl475_0; clear hi475_0 hl475_0; replace p475 := eq_true p475; replace q475 := eq_true q475; have p476 : 0 ≤ (1 : Int) := (by omega); have q476 : 1 < ((rd_L1 l0 1).length : Int) := oD; obtain ⟨ad476, e476, hx476_0⟩ := Kd.at_int HR475_0.out 1 p476 q476; cases e476
    (try simp only [show (1 : Int).toNat = 1 from rfl, Nat.reduceMul, Nat.reduceEqDiff, Go.Addr.add, ↓reduceIte] at hx476_0)
    have qi476 : (1 < (rd_L1 l0 1).length) = True := eq_true (by omega)
    (try rw [show ((1 : Int)).toNat = 1 from rfl] at hx476_0)
    replace p476 := eq_true p476; replace q476 := eq_true q476; have p477 : 0 ≤ (0 : Int) := (by omega); have q477 : 0 < (l0.length : Int) := oD; obtain ⟨ad477, A477_0, c477_0, e477, hx477_0, hl477_0, hi477_0⟩ := at_L1 HR0.out 0 p477 q477; obtain rfl : ad473 = ad477 := (by injection e477); have qi477 : (0 < l0.length) = True := eq_true (by omega)
    (try rw [show ((0 : Int)).toNat = 0 from rfl] at hx477_0)
    (try rw [Addr.add_zero'] at hx477_0)
    have HR477_0 := Aside0.mk hi477_0; have HC477_0 := Aside0.mk hl477_0; clear hi477_0 hl477_0; replace p477 := eq_true p477; replace q477 := eq_true q477; have ea_ := Option.some.inj (hx473_0.symm.trans hx477_0)
    injection ea_ with ea_ en_ ec_
    subst ea_; subst ec_; clear en_; have p478 : 0 ≤ (1 : Int) := (by omega); have q478 : 1 < ((rd_L1 l0 0).length : Int) := oD; obtain ⟨ad478, e478, hx478_0⟩ := Kd.at_int HR477_0.out 1 p478 q478; cases e478
    (try simp only [show (1 : Int).toNat = 1 from rfl, Nat.reduceMul, Nat.reduceEqDiff, Go.Addr.add, ↓reduceIte] at hx478_0)
    have qi478 : (1 < (rd_L1 l0 0).length) = True := eq_true (by omega)
    (try rw [show ((1 : Int)).toNat = 1 from rfl] at hx478_0)
    replace p478 := eq_true p478; replace q478 := eq_true q478; have p479 : 0 ≤ (1 : Int) := (by omega); have q479 : 1 < (l0.length : Int) := oD; obtain ⟨ad479, A479_0, c479_0, e479, hx479_0, hl479_0, hi479_0⟩ := at_L1 HR0.out 1 p479 q479; obtain rfl : ad473 = ad479 := (by injection e479)
    (try simp only [show (1 : Int).toNat = 1 from rfl, Nat.reduceMul, Nat.reduceEqDiff, Go.Addr.add, ↓reduceIte] at hx479_0)
    have qi479 : (1 < l0.length) = True := eq_true (by omega)
    (try rw [show ((1 : Int)).toNat = 1 from rfl] at hx479_0)
    have HR479_0 := Aside0.mk hi479_0; have HC479_0 := Aside0.mk hl479_0; clear hi479_0 hl479_0; replace p479 := eq_true p479; replace q479 := eq_true q479; have ea_ := Option.some.inj (hx475_0.symm.trans hx479_0)
    injection ea_ with ea_ en_ ec_
    subst ea_; subst ec_; clear en_; have p480 : 0 ≤ (0 : Int) := (by omega); have q480 : 0 < ((rd_L1 l0 1).length : Int) := oD; obtain ⟨ad480, e480, hx480_0⟩ := Kd.at_int HR479_0.out 0 p480 q480; cases e480; have qi480 : (0 < (rd_L1 l0 1).length) = True := eq_true (by omega)
    (try rw [show ((0 : Int)).toNat = 0 from rfl] at hx480_0)
    (try rw [Addr.add_zero'] at hx480_0)
    replace p480 := eq_true p480; replace q480 := eq_true q480; go_enter Try.func83, Try.ntmps83
    go_wp2
    repeat (go_quiet (fail); try go_wp2)
    go_ret
    exact ⟨by first | rfl | (simp; done) | (simp [*]; done), by repeat (first | exact Drawn0.refl _ | apply Drawn0.step)⟩
  rw [if_neg c5] at H; have c5b0 : ((l0.length : Int) == 2) = false := beq_eq_false_iff_ne.mpr c5; have c5b1 : ((l0.length : Int) != 2) = true := bne_iff_ne.mpr c5; have H' := Aside0.mk H; clear H; go_enter Try.func83, Try.ntmps83
  go_wp2
  repeat (go_quiet (fail); try go_wp2)
  go_loopg [3, 4] k (fun kq v3 v4 w' => ∃ (x3_1 : Int) (x4_1 : Int), v3 = .int .i64 x3_1 ∧ v4 = .int .i64 x4_1 ∧ Aside0 (spec_l7Det.l0 kq l0 x3_1 x4_1 = some r) ∧ Aside0 (kq ≤ k) ∧ Drawn0 w w')
  case atStart => exact ⟨(0), (0), sR, sR, H', ⟨Nat.le_refl _⟩, by repeat (first | exact Drawn0.refl _ | apply Drawn0.step)⟩
  case round =>
    clear H'; (try clear c2); (try clear c2b0); (try clear c2b1); (try clear c5); (try clear c5b0); (try clear c5b1); obtain ⟨x3_1, x4_1, rfl, rfl, HA, HK1, ⟨m1, rfl⟩⟩ := hrel; cases gk with
    | zero => exact absurd HA.out (by simp [spec_l7Det.l0])
    | succ k1 =>
      have H := HA.out; clear HA; simp only [spec_l7Det.l0] at H
      by_cases c12 : x4_1 < 3
      · rw [if_pos c12] at H
        have c12b0 : decide (x4_1 < 3) = true := decide_eq_true c12; clear c12; obtain ⟨c13, H⟩ := ifN H; have c13b0 : decide (1 < (l0.length : Int)) = true := decide_eq_true c13; have c13b1 : decide (1 < l0.length) = true := decide_eq_true (by omega); clear c13; obtain ⟨ji14, hji14⟩ : ∃ j_ : Int, (Int.tmod (wrap64 (x4_1 + 1)) 3) = j_ := ⟨_, rfl⟩
        replace H : (if 0 ≤ (ji14) then (if (ji14) < ((rd_L1 l0 1).length : Int) then (if 2 < (l0.length : Int) then (if 0 ≤ (Int.tmod (wrap64 (x4_1 + 2)) 3) then (if (Int.tmod (wrap64 (x4_1 + 2)) 3) < ((rd_L1 l0 2).length : Int) then (if (Int.tmod (wrap64 (x4_1 + 2)) 3) < ((rd_L1 l0 1).length : Int) then (if (ji14) < ((rd_L1 l0 2).length : Int) then (if 0 < (l0.length : Int) then (if 0 ≤ x4_1 then (if x4_1 < ((rd_L1 l0 0).length : Int) then (spec_l7Det.l0 k1 l0 (wrap64 (x3_1 + (wrap64 ((rd (rd_L1 l0 0) x4_1) * (wrap64 ((wrap64 ((rd (rd_L1 l0 1) (ji14)) * (rd (rd_L1 l0 2) (Int.tmod (wrap64 (x4_1 + 2)) 3)))) - (wrap64 ((rd (rd_L1 l0 1) (Int.tmod (wrap64 (x4_1 + 2)) 3)) * (rd (rd_L1 l0 2) (ji14)))))))))) (wrap64 (x4_1 + 1))) else (none)) else (none)) else (none)) else (none)) else (none)) else (none)) else (none)) else (none)) else (none)) else (none)) = some r := by first | (rw [hji14] at H; exact H) | (simp only [hji14] at H ⊢; exact H)
        obtain ⟨c15, H⟩ := ifN H; have c15b0 : decide (0 ≤ (ji14)) = true := decide_eq_true c15; clear c15; obtain ⟨c16, H⟩ := ifN H; have c16b0 : decide ((ji14) < ((rd_L1 l0 1).length : Int)) = true := decide_eq_true c16; clear c16; obtain ⟨c17, H⟩ := ifN H; have c17b0 : decide (2 < (l0.length : Int)) = true := decide_eq_true c17; have c17b1 : decide (2 < l0.length) = true := decide_eq_true (by omega); clear c17; obtain ⟨ji18, hji18⟩ : ∃ j_ : Int, (Int.tmod (wrap64 (x4_1 + 2)) 3) = j_ := ⟨_, rfl⟩
        replace H : (if 0 ≤ (ji18) then (if (ji18) < ((rd_L1 l0 2).length : Int) then (if (ji18) < ((rd_L1 l0 1).length : Int) then (if (ji14) < ((rd_L1 l0 2).length : Int) then (if 0 < (l0.length : Int) then (if 0 ≤ x4_1 then (if x4_1 < ((rd_L1 l0 0).length : Int) then (spec_l7Det.l0 k1 l0 (wrap64 (x3_1 + (wrap64 ((rd (rd_L1 l0 0) x4_1) * (wrap64 ((wrap64 ((rd (rd_L1 l0 1) (ji14)) * (rd (rd_L1 l0 2) (ji18)))) - (wrap64 ((rd (rd_L1 l0 1) (ji18)) * (rd (rd_L1 l0 2) (ji14)))))))))) (wrap64 (x4_1 + 1))) else (none)) else (none)) else (none)) else (none)) else (none)) else (none)) else (none)) = some r := by first | (rw [hji18] at H; exact H) | (simp only [hji18] at H ⊢; exact H)
        obtain ⟨c19, H⟩ := ifN H; have c19b0 : decide (0 ≤ (ji18)) = true := decide_eq_true c19; clear c19; obtain ⟨c20, H⟩ := ifN H; have c20b0 : decide ((ji18) < ((rd_L1 l0 2).length : Int)) = true := decide_eq_true c20; clear c20; obtain ⟨c21, H⟩ := ifN H; have c21b0 : decide ((ji18) < ((rd_L1 l0 1).length : Int)) = true := decide_eq_true c21; clear c21; obtain ⟨c22, H⟩ := ifN H; have c22b0 : decide ((ji14) < ((rd_L1 l0 2).length : Int)) = true := decide_eq_true c22; clear c22; obtain ⟨c23, H⟩ := ifN H; have c23b0 : decide (0 < (l0.length : Int)) = true := decide_eq_true c23; have c23b1 : decide (0 < l0.length) = true := decide_eq_true (by omega); clear c23; obtain ⟨c24, H⟩ := ifN H; have c24b0 : decide (0 ≤ x4_1) = true := decide_eq_true c24; clear c24; obtain ⟨c25, H⟩ := ifN H; have c25b0 : decide (x4_1 < ((rd_L1 l0 0).length : Int)) = true := decide_eq_true c25; clear c25; have H' := Aside0.mk H; clear H; have p481 : 0 ≤ (1 : Int) := (by omega); have q481 : 1 < (l0.length : Int) := oD; obtain ⟨ad481, A481_0, c481_0, e481, hx481_0, hl481_0, hi481_0⟩ := at_L1 HR0.out 1 p481 q481; cases e481
        (try simp only [show (1 : Int).toNat = 1 from rfl, Nat.reduceMul, Nat.reduceEqDiff, Go.Addr.add, ↓reduceIte] at hx481_0)
        have qi481 : (1 < l0.length) = True := eq_true (by omega)
        (try rw [show ((1 : Int)).toNat = 1 from rfl] at hx481_0)
        have HR481_0 := Aside0.mk hi481_0; have HC481_0 := Aside0.mk hl481_0; clear hi481_0 hl481_0; replace p481 := eq_true p481; replace q481 := eq_true q481; have p482 : 0 ≤ ((ji14) : Int) := oD; have q482 : (ji14) < ((rd_L1 l0 1).length : Int) := oD; obtain ⟨ad482, e482, hx482_0⟩ := Kd.at_int HR481_0.out (ji14) p482 q482; cases e482; replace p482 := eq_true p482; replace q482 := eq_true q482; have p483 : 0 ≤ (2 : Int) := (by omega); have q483 : 2 < (l0.length : Int) := oD; obtain ⟨ad483, A483_0, c483_0, e483, hx483_0, hl483_0, hi483_0⟩ := at_L1 HR0.out 2 p483 q483; obtain rfl : ad481 = ad483 := (by injection e483)
        (try simp only [show (2 : Int).toNat = 2 from rfl, Nat.reduceMul, Nat.reduceEqDiff, Go.Addr.add, ↓reduceIte] at hx483_0)
        have qi483 : (2 < l0.length) = True := eq_true (by omega)
        (try rw [show ((2 : Int)).toNat = 2 from rfl] at hx483_0)
        have HR483_0 := Aside0.mk hi483_0; have HC483_0 := Aside0.mk hl483_0; clear hi483_0 hl483_0; replace p483 := eq_true p483; replace q483 := eq_true q483; have p484 : 0 ≤ ((ji18) : Int) := oD; have q484 : (ji18) < ((rd_L1 l0 2).length : Int) := oD; obtain ⟨ad484, e484, hx484_0⟩ := Kd.at_int HR483_0.out (ji18) p484 q484; cases e484; replace p484 := eq_true p484; replace q484 := eq_true q484; have p485 : 0 ≤ (1 : Int) := (by omega); have q485 : 1 < (l0.length : Int) := oD; obtain ⟨ad485, A485_0, c485_0, e485, hx485_0, hl485_0, hi485_0⟩ := at_L1 HR0.out 1 p485 q485; obtain rfl : ad481 = ad485 := (by injection e485)
        (try simp only [show (1 : Int).toNat = 1 from rfl, Nat.reduceMul, Nat.reduceEqDiff, Go.Addr.add, ↓reduceIte] at hx485_0)
        have qi485 : (1 < l0.length) = True := eq_true (by omega)
        (try rw [show ((1 : Int)).toNat = 1 from rfl] at hx485_0)
        have HR485_0 := Aside0.mk hi485_0; have HC485_0 := Aside0.mk hl485_0; clear hi485_0 hl485_0; replace p485 := eq_true p485; replace q485 := eq_true q485; have ea_ := Option.some.inj (hx481_0.symm.trans hx485_0)
        injection ea_ with ea_ en_ ec_
        subst ea_; subst ec_; clear en_; have p486 : 0 ≤ ((ji18) : Int) := oD; have q486 : (ji18) < ((rd_L1 l0 1).length : Int) := oD; obtain ⟨ad486, e486, hx486_0⟩ := Kd.at_int HR485_0.out (ji18) p486 q486; cases e486; replace p486 := eq_true p486; replace q486 := eq_true q486; have p487 : 0 ≤ (2 : Int) := (by omega); have q487 : 2 < (l0.length : Int) := oD; obtain ⟨ad487, A487_0, c487_0, e487, hx487_0, hl487_0, hi487_0⟩ := at_L1 HR0.out 2 p487 q487; obtain rfl : ad481 = ad487 := (by injection e487)
        (try simp only [show (2 : Int).toNat = 2 from rfl, Nat.reduceMul, Nat.reduceEqDiff, Go.Addr.add, ↓reduceIte] at hx487_0)
        have qi487 : (2 < l0.length) = True := eq_true (by omega)
        (try rw [show ((2 : Int)).toNat = 2 from rfl] at hx487_0)
        have HR487_0 := Aside0.mk hi487_0; have HC487_0 := Aside0.mk hl487_0; clear hi487_0 hl487_0; replace p487 := eq_true p487; replace q487 := eq_true q487; have ea_ := Option.some.inj (hx483_0.symm.trans hx487_0)
        injection ea_ with ea_ en_ ec_
        subst ea_; subst ec_; clear en_; have p488 : 0 ≤ ((ji14) : Int) := oD; have q488 : (ji14) < ((rd_L1 l0 2).length : Int) := oD; obtain ⟨ad488, e488, hx488_0⟩ := Kd.at_int HR487_0.out (ji14) p488 q488; cases e488; replace p488 := eq_true p488; replace q488 := eq_true q488; have p489 : 0 ≤ (0 : Int) := (by omega); have q489 : 0 < (l0.length : Int) := oD; obtain ⟨ad489, A489_0, c489_0, e489, hx489_0, hl489_0, hi489_0⟩ := at_L1 HR0.out 0 p489 q489; obtain rfl : ad481 = ad489 := (by injection e489); have qi489 : (0 < l0.length) = True := eq_true (by omega)
        (try rw [show ((0 : Int)).toNat = 0 from rfl] at hx489_0)
        (try rw [Addr.add_zero'] at hx489_0)
        have HR489_0 := Aside0.mk hi489_0; have HC489_0 := Aside0.mk hl489_0; clear hi489_0 hl489_0; replace p489 := eq_true p489; replace q489 := eq_true q489; have p490 : 0 ≤ (x4_1 : Int) := oD; have q490 : x4_1 < ((rd_L1 l0 0).length : Int) := oD; obtain ⟨ad490, e490, hx490_0⟩ := Kd.at_int HR489_0.out x4_1 p490 q490; cases e490; replace p490 := eq_true p490; replace q490 := eq_true q490
        go_wp2
        repeat (go_quiet (fail); try go_wp2)
        go_roundg k1
        case measure => have := HK1.out; omega
        case rel => exact ⟨(wrap64 (x3_1 + (wrap64 ((rd (rd_L1 l0 0) x4_1) * (wrap64 ((wrap64 ((rd (rd_L1 l0 1) (ji14)) * (rd (rd_L1 l0 2) (ji18)))) - (wrap64 ((rd (rd_L1 l0 1) (ji18)) * (rd (rd_L1 l0 2) (ji14)))))))))), (wrap64 (x4_1 + 1)), (by first | rfl | (simp; done) | (simp only [← hji14, ← hji18] <;> (first | rfl | simp)) | (simp [*]; done)), sR, H', ⟨by have := HK1.out; omega⟩, by repeat (first | exact Drawn0.refl _ | apply Drawn0.step)⟩
      rw [if_neg c12] at H; have c12b0 : decide (x4_1 < 3) = false := decide_eq_false c12; clear c12; obtain rfl := Option.some.inj H
      go_wp2
      repeat (go_quiet (fail); try go_wp2)
      go_ret
      exact ⟨by first | rfl | (simp; done) | (simp [*]; done), by repeat (first | exact Drawn0.refl _ | apply Drawn0.step)⟩

/-! ### spec_MoveSign: function 46 -/
def spec_MoveSign.f (k : Nat) (l0 : List Int) (l1_0 : List (List Int)) (a1_1 : Int) : Option (Int) := (spec_MoveValid.f k l0 l1_0 a1_1).bind fun t492 => (if t492 = true then ((spec_l7Det.f k l1_0).bind fun t493 => (if t493 > 0 then (some 1) else (some (-1)))) else (some 0))
theorem spec_MoveSign.mono : ∀ a0 a1 a2 k, LeO (spec_MoveSign.f k a0 a1 a2) (spec_MoveSign.f (k + 1) a0 a1 a2) := by
  intro a0 a1 a2 k
  unfold spec_MoveSign.f
  repeat' first
      | (with_reducible exact spec_MoveValid.mono _ _ _ _)
      | (with_reducible exact spec_l7Det.mono _ _)
      | (with_reducible exact LeO.refl _)
      | (with_reducible exact LeO.none _)
      | (with_reducible refine LeO.ite ?_ ?_)
      | (with_reducible refine LeO.bind ?_ (fun _ => ?_))
      | exact spec_MoveValid.mono _ _ _ _
      | exact spec_l7Det.mono _ _
      | exact LeO.none _
      | refine LeO.ite ?_ ?_
      | refine LeO.bind ?_ (fun _ => ?_)
set_option maxHeartbeats 8000000 in
set_option maxRecDepth 100000 in
theorem spec_MoveSign.calls (k : Nat) (A0 : Option Addr) (c0 : Nat) (l0 : List Int) (A1_0 : Option Addr) (c1_0 : Nat) (l1_0 : List (List Int)) (a1_1 : Int) (r : Int) (w : World) (hr0 : Kd.C (Kd.int .i64) w A0 l0.length l0) (hc0 : l0.length ≤ c0) (hr1_0 : Kd.C (Kd.slice 3 (Kd.int .i64)) w A1_0 l1_0.length l1_0) (hc1_0 : l1_0.length ≤ c1_0) (h : spec_MoveSign.f k l0 l1_0 a1_1 = some r) :
    Calls Try.prog 46 #[.slice A0 l0.length c0, .agg #[.slice A1_0 l1_0.length c1_0, .int .i64 a1_1]] w fun e w' => e = .returned (.int .i64 r) ∧ Below w.heap.size w w' := by
  have hu27 := Try.underlying27; have HR0 := Aside0.mk hr0; have HC0 := Aside0.mk hc0; clear hr0 hc0; have HR1_0 := Aside0.mk hr1_0; have HC1_0 := Aside0.mk hc1_0; clear hr1_0 hc1_0; have HB := Aside0.mk (Below.refl w.heap.size w); unfold spec_MoveSign.f at h; have H := h; clear h; obtain ⟨t492, A3, H⟩ := bnd H
  by_cases c4 : t492 = true
  · subst c4
    replace H := ifT H; obtain ⟨t493, A5, H⟩ := bnd H
    by_cases c6 : t493 > 0
    · rw [if_pos c6] at H
      have c6b0 : decide (0 < t493) = true := decide_eq_true c6; clear c6; obtain rfl := Option.some.inj H; go_enter Try.func46, Try.ntmps46
      go_wp2_with (first | ((with_reducible refine gate_dst (N := 3) rfl ?_); refine boxE (N := 3) (cs := #[.slice A1_0 l1_0.length c1_0, .int .i64 a1_1]) (t := 27) ?_; intro gb491 hg w7 hbox hb; have BK491 := Aside0.mk (hbox); have GW491 := GS w hg; have GE491 := GS w hg; replace HB := BS hb; clear hb hbox hg; obtain ⟨hcz8_0, hcz8_1, hfz8_0, hfz8_1⟩ := bcf BK491) | ((with_reducible refine gate_callee (f := 41) rfl ?_); refine goesK (some 7) Try.func41 #[.slice A0 l0.length c0, .agg #[.slice A1_0 l1_0.length c1_0, .int .i64 a1_1]] ?_; (with_reducible refine (spec_MoveValid.calls k _ _ l0 _ _ l1_0 a1_1 true _ ?side1 ?side2 ?side3 ?side4 A3.out).mono ?_); (case side1 => exact U (Kd.C_below HR0.out HB.out)); (case side2 => exact HC0.out); (case side3 => exact U (Kd.C_below HR1_0.out HB.out)); (case side4 => exact HC1_0.out); rintro e w9 ⟨rfl, hb⟩; refine ⟨_, rfl, ?_⟩; replace BK491 := bB BK491 hb; replace HB := BS hb; (try clear hb); obtain ⟨hcz10_0, hcz10_1, hfz10_0, hfz10_1⟩ := bcf BK491) | ((with_reducible refine gate_callee (f := 83) rfl ?_); refine goesK (some 11) Try.func83 #[.slice A1_0 l1_0.length c1_0] ?_; (with_reducible refine (spec_l7Det.calls k _ _ l1_0 t493 _ ?side1 ?side2 A5.out).mono ?_); (case side1 => exact U (Kd.C_below HR1_0.out HB.out)); (case side2 => exact HC1_0.out); rintro e w' ⟨rfl, ⟨nd, rfl⟩⟩; refine ⟨_, rfl, ?_⟩))
      go_ret
      exact ⟨eR, BU⟩
    rw [if_neg c6] at H; have c6b0 : decide (0 < t493) = false := decide_eq_false c6; clear c6; obtain rfl := Option.some.inj H; go_enter Try.func46, Try.ntmps46
    go_wp2_with (first | ((with_reducible refine gate_dst (N := 3) rfl ?_); refine boxE (N := 3) (cs := #[.slice A1_0 l1_0.length c1_0, .int .i64 a1_1]) (t := 27) ?_; intro gb491 hg w11 hbox hb; have BK491 := Aside0.mk (hbox); have GW491 := GS w hg; have GE491 := GS w hg; replace HB := BS hb; clear hb hbox hg; obtain ⟨hcz12_0, hcz12_1, hfz12_0, hfz12_1⟩ := bcf BK491) | ((with_reducible refine gate_callee (f := 41) rfl ?_); refine goesK (some 7) Try.func41 #[.slice A0 l0.length c0, .agg #[.slice A1_0 l1_0.length c1_0, .int .i64 a1_1]] ?_; (with_reducible refine (spec_MoveValid.calls k _ _ l0 _ _ l1_0 a1_1 true _ ?side1 ?side2 ?side3 ?side4 A3.out).mono ?_); (case side1 => exact U (Kd.C_below HR0.out HB.out)); (case side2 => exact HC0.out); (case side3 => exact U (Kd.C_below HR1_0.out HB.out)); (case side4 => exact HC1_0.out); rintro e w13 ⟨rfl, hb⟩; refine ⟨_, rfl, ?_⟩; replace BK491 := bB BK491 hb; replace HB := BS hb; (try clear hb); obtain ⟨hcz14_0, hcz14_1, hfz14_0, hfz14_1⟩ := bcf BK491) | ((with_reducible refine gate_callee (f := 83) rfl ?_); refine goesK (some 11) Try.func83 #[.slice A1_0 l1_0.length c1_0] ?_; (with_reducible refine (spec_l7Det.calls k _ _ l1_0 t493 _ ?side1 ?side2 A5.out).mono ?_); (case side1 => exact U (Kd.C_below HR1_0.out HB.out)); (case side2 => exact HC1_0.out); rintro e w' ⟨rfl, ⟨nd, rfl⟩⟩; refine ⟨_, rfl, ?_⟩))
    go_ret
    exact ⟨eR, BU⟩
  replace c4 := Bool.eq_false_iff.mpr c4; subst c4; replace H := ifF H; obtain rfl := Option.some.inj H; go_enter Try.func46, Try.ntmps46
  go_wp2_with (first | ((with_reducible refine gate_dst (N := 3) rfl ?_); refine boxE (N := 3) (cs := #[.slice A1_0 l1_0.length c1_0, .int .i64 a1_1]) (t := 27) ?_; intro gb491 hg w15 hbox hb; have BK491 := Aside0.mk (hbox); have GW491 := GS w hg; have GE491 := GS w hg; replace HB := BS hb; clear hb hbox hg; obtain ⟨hcz16_0, hcz16_1, hfz16_0, hfz16_1⟩ := bcf BK491) | ((with_reducible refine gate_callee (f := 41) rfl ?_); refine goesK (some 7) Try.func41 #[.slice A0 l0.length c0, .agg #[.slice A1_0 l1_0.length c1_0, .int .i64 a1_1]] ?_; (with_reducible refine (spec_MoveValid.calls k _ _ l0 _ _ l1_0 a1_1 false _ ?side1 ?side2 ?side3 ?side4 A3.out).mono ?_); (case side1 => exact U (Kd.C_below HR0.out HB.out)); (case side2 => exact HC0.out); (case side3 => exact U (Kd.C_below HR1_0.out HB.out)); (case side4 => exact HC1_0.out); rintro e w17 ⟨rfl, hb⟩; refine ⟨_, rfl, ?_⟩; replace BK491 := bB BK491 hb; replace HB := BS hb; (try clear hb)))
  go_ret
  exact ⟨eR, BU⟩

/-! ### slices_Equal_int_int: function 72 -/
def slices_Equal_int_int.l0 : Nat → List Int → List Int → Int → Int → Option (Bool)
  | 0, _, _, _, _ => none
  | k + 1, x0, x1, x12, x13 => if x13 < x12 then (if 0 ≤ x13 then (if x13 < (x0.length : Int) then (if x13 < (x1.length : Int) then (if (rd x0 x13) = (rd x1 x13) then (slices_Equal_int_int.l0 k x0 x1 x12 (wrap64 (x13 + 1))) else (some false)) else (none)) else (none)) else (none)) else (some true)
def slices_Equal_int_int.f (k : Nat) (l0 : List Int) (l1 : List Int) : Option (Bool) := if (l0.length : Int) = (l1.length : Int) then (slices_Equal_int_int.l0 k l0 l1 (l0.length : Int) 0) else (some false)
theorem slices_Equal_int_int.mono_l : ∀ k, (∀ y0 y1 y2 y3, LeO (slices_Equal_int_int.l0 k y0 y1 y2 y3) (slices_Equal_int_int.l0 (k + 1) y0 y1 y2 y3))
  | 0 => fun _ _ _ _ r h => by simp [slices_Equal_int_int.l0] at h
  | k + 1 => by
    have ih0 := slices_Equal_int_int.mono_l k
    · intro y0 y1 y2 y3
      unfold slices_Equal_int_int.l0
      repeat' first
      | (with_reducible exact ih0 _ _ _ _)
      | (with_reducible exact LeO.refl _)
      | (with_reducible exact LeO.none _)
      | (with_reducible refine LeO.ite ?_ ?_)
      | (with_reducible refine LeO.bind ?_ (fun _ => ?_))
      | exact ih0 _ _ _ _
      | exact LeO.none _
      | refine LeO.ite ?_ ?_
      | refine LeO.bind ?_ (fun _ => ?_)
theorem slices_Equal_int_int.mono : ∀ a0 a1 k, LeO (slices_Equal_int_int.f k a0 a1) (slices_Equal_int_int.f (k + 1) a0 a1) := by
  intro a0 a1 k
  have ih0 := slices_Equal_int_int.mono_l k
  unfold slices_Equal_int_int.f
  repeat' first
      | (with_reducible exact ih0 _ _ _ _)
      | (with_reducible exact LeO.refl _)
      | (with_reducible exact LeO.none _)
      | (with_reducible refine LeO.ite ?_ ?_)
      | (with_reducible refine LeO.bind ?_ (fun _ => ?_))
      | exact ih0 _ _ _ _
      | exact LeO.none _
      | refine LeO.ite ?_ ?_
      | refine LeO.bind ?_ (fun _ => ?_)
set_option maxHeartbeats 8000000 in
set_option maxRecDepth 100000 in
theorem slices_Equal_int_int.calls (k : Nat) (A0 : Option Addr) (c0 : Nat) (l0 : List Int) (A1 : Option Addr) (c1 : Nat) (l1 : List Int) (r : Bool) (w : World) (hr0 : Kd.C (Kd.int .i64) w A0 l0.length l0) (hc0 : l0.length ≤ c0) (hr1 : Kd.C (Kd.int .i64) w A1 l1.length l1) (hc1 : l1.length ≤ c1) (h : slices_Equal_int_int.f k l0 l1 = some r) :
    Calls Try.prog 72 #[.slice A0 l0.length c0, .slice A1 l1.length c1] w fun e w' => e = .returned (.bool r) ∧ Drawn0 w w' := by
  have HR0 := Aside0.mk hr0; have HC0 := Aside0.mk hc0; clear hr0 hc0; have HR1 := Aside0.mk hr1; have HC1 := Aside0.mk hc1; clear hr1 hc1; unfold slices_Equal_int_int.f at h; have H := h; clear h
  by_cases c3 : (l0.length : Int) = (l1.length : Int)
  · rw [if_pos c3] at H
    have c3b0 : ((l0.length : Int) == (l1.length : Int)) = true := beq_iff_eq.mpr c3; have c3b1 : ((l0.length : Int) != (l1.length : Int)) = false := bne_eq_false_iff_eq.mpr c3
    have c3b2 : (l0.length == l1.length) = true := by first | simpa using c3 | (simp at c3 ⊢; omega)
    clear c3; have H' := Aside0.mk H; clear H; go_enter Try.func72, Try.ntmps72
    go_wp2
    repeat (go_quiet (fail); try go_wp2)
    go_loopg [13] k (fun kq v13 w' => ∃ (x13_1 : Int), v13 = .int .i64 x13_1 ∧ Aside0 (slices_Equal_int_int.l0 kq l0 l1 (l0.length : Int) x13_1 = some r) ∧ Aside0 (kq ≤ k) ∧ Drawn0 w w')
    case atStart => exact ⟨(0), sR, H', ⟨Nat.le_refl _⟩, by repeat (first | exact Drawn0.refl _ | apply Drawn0.step)⟩
    case round =>
      clear H'; (try clear c3); (try clear c3b0); (try clear c3b1); (try clear c3b2); obtain ⟨x13_1, rfl, HA, HK1, ⟨m1, rfl⟩⟩ := hrel; cases gk with
      | zero => exact absurd HA.out (by simp [slices_Equal_int_int.l0])
      | succ k1 =>
        have H := HA.out; clear HA; simp only [slices_Equal_int_int.l0] at H
        by_cases c4 : x13_1 < (l0.length : Int)
        · rw [if_pos c4] at H
          have c4b0 : decide (x13_1 < (l0.length : Int)) = true := decide_eq_true c4; clear c4; obtain ⟨c5, H⟩ := ifN H; have c5b0 : decide (0 ≤ x13_1) = true := decide_eq_true c5; clear c5; obtain ⟨c6, H⟩ := ifN H; have c6b0 : decide (x13_1 < (l0.length : Int)) = true := decide_eq_true c6; clear c6; obtain ⟨c7, H⟩ := ifN H; have c7b0 : decide (x13_1 < (l1.length : Int)) = true := decide_eq_true c7; clear c7
          by_cases c8 : (rd l0 x13_1) = (rd l1 x13_1)
          · rw [if_pos c8] at H
            have c8b0 : ((rd l0 x13_1) == (rd l1 x13_1)) = true := beq_iff_eq.mpr c8; have c8b1 : ((rd l0 x13_1) != (rd l1 x13_1)) = false := bne_eq_false_iff_eq.mpr c8; clear c8; have H' := Aside0.mk H; clear H; have p494 : 0 ≤ (x13_1 : Int) := oD; have q494 : x13_1 < (l0.length : Int) := oD; obtain ⟨ad494, e494, hx494_0⟩ := Kd.at_int HR0.out x13_1 p494 q494; cases e494; replace p494 := eq_true p494; replace q494 := eq_true q494; have p495 : 0 ≤ (x13_1 : Int) := oD; have q495 : x13_1 < (l1.length : Int) := oD; obtain ⟨ad495, e495, hx495_0⟩ := Kd.at_int HR1.out x13_1 p495 q495; cases e495; replace p495 := eq_true p495; replace q495 := eq_true q495
            go_wp2
            repeat (go_quiet (fail); try go_wp2)
            go_roundg k1
            case measure => have := HK1.out; omega
            case rel => exact ⟨(wrap64 (x13_1 + 1)), sR, H', ⟨by have := HK1.out; omega⟩, by repeat (first | exact Drawn0.refl _ | apply Drawn0.step)⟩
          rw [if_neg c8] at H; have c8b0 : ((rd l0 x13_1) == (rd l1 x13_1)) = false := beq_eq_false_iff_ne.mpr c8; have c8b1 : ((rd l0 x13_1) != (rd l1 x13_1)) = true := bne_iff_ne.mpr c8; obtain rfl := Option.some.inj H; have p494 : 0 ≤ (x13_1 : Int) := oD; have q494 : x13_1 < (l0.length : Int) := oD; obtain ⟨ad494, e494, hx494_0⟩ := Kd.at_int HR0.out x13_1 p494 q494; cases e494; replace p494 := eq_true p494; replace q494 := eq_true q494; have p495 : 0 ≤ (x13_1 : Int) := oD; have q495 : x13_1 < (l1.length : Int) := oD; obtain ⟨ad495, e495, hx495_0⟩ := Kd.at_int HR1.out x13_1 p495 q495; cases e495; replace p495 := eq_true p495; replace q495 := eq_true q495
          go_wp2
          repeat (go_quiet (fail); try go_wp2)
          go_ret
          exact ⟨by first | rfl | (simp; done) | (simp [*]; done), by repeat (first | exact Drawn0.refl _ | apply Drawn0.step)⟩
        rw [if_neg c4] at H; have c4b0 : decide (x13_1 < (l0.length : Int)) = false := decide_eq_false c4; clear c4; obtain rfl := Option.some.inj H
        go_wp2
        repeat (go_quiet (fail); try go_wp2)
        go_ret
        exact ⟨by first | rfl | (simp; done) | (simp [*]; done), by repeat (first | exact Drawn0.refl _ | apply Drawn0.step)⟩
  rw [if_neg c3] at H; have c3b0 : ((l0.length : Int) == (l1.length : Int)) = false := beq_eq_false_iff_ne.mpr c3; have c3b1 : ((l0.length : Int) != (l1.length : Int)) = true := bne_iff_ne.mpr c3
  have c3b2 : (l0.length == l1.length) = false := by first | simpa using c3 | (simp at c3 ⊢; omega)
  obtain rfl := Option.some.inj H; go_enter Try.func72, Try.ntmps72
  go_wp2
  repeat (go_quiet (fail); try go_wp2)
  go_ret
  exact ⟨by first | rfl | (simp; done) | (simp [*]; done), by repeat (first | exact Drawn0.refl _ | apply Drawn0.step)⟩

end Go.Proofs.Ytnbeeogmaamgdaa.PFnSign
