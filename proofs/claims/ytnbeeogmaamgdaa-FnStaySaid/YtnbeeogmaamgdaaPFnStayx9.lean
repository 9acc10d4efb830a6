-- Written by a program of this session (wip/print2.py): the functions that the law reaches, plain, and the walks.
import Derived.Test.YtnbeeogmaamgdaaPFnStayx0
import Derived.Test.YtnbeeogmaamgdaaPFnStayx4
namespace Go.Proofs.Ytnbeeogmaamgdaa.PFnStay
open Go.RowKit Go.Proofs.YtnbeeogmaamgdaaW.PrintWords Go.Proofs.YtnbeeogmaamgdaaW.PrintLast Go.Proofs.YtnbeeogmaamgdaaW.PrintMore
attribute [local go_sem] max2_int min2_int max_two min_two max_three min_three max_four min_four   -- for this text's walks alone
set_option linter.unusedVariables false
set_option linter.unusedSimpArgs false

/-! ### impl_determinantSign: function 62 -/
def impl_determinantSign.l0 : Nat → List (List Int) → Int → Int → Option (Int)
  | 0, _, _, _ => none
  | k + 1, x0, x3, x41 => if x41 < 3 then (if 0 < (x0.length : Int) then (if 0 ≤ x41 then (if x41 < ((rd_L2 x0 0).length : Int) then (if 1 < (x0.length : Int) then (if 0 ≤ (Int.tmod (wrap64 (x41 + 1)) 3) then (if (Int.tmod (wrap64 (x41 + 1)) 3) < ((rd_L2 x0 1).length : Int) then (if 2 < (x0.length : Int) then (if 0 ≤ (Int.tmod (wrap64 (x41 + 2)) 3) then (if (Int.tmod (wrap64 (x41 + 2)) 3) < ((rd_L2 x0 2).length : Int) then (if (Int.tmod (wrap64 (x41 + 2)) 3) < ((rd_L2 x0 1).length : Int) then (if (Int.tmod (wrap64 (x41 + 1)) 3) < ((rd_L2 x0 2).length : Int) then (impl_determinantSign.l0 k x0 (wrap64 (x3 + (wrap64 ((rd (rd_L2 x0 0) x41) * (wrap64 ((wrap64 ((rd (rd_L2 x0 1) (Int.tmod (wrap64 (x41 + 1)) 3)) * (rd (rd_L2 x0 2) (Int.tmod (wrap64 (x41 + 2)) 3)))) - (wrap64 ((rd (rd_L2 x0 1) (Int.tmod (wrap64 (x41 + 2)) 3)) * (rd (rd_L2 x0 2) (Int.tmod (wrap64 (x41 + 1)) 3)))))))))) (wrap64 (x41 + 1))) else (none)) else (none)) else (none)) else (none)) else (none)) else (none)) else (none)) else (none)) else (none)) else (none)) else (none)) else (some x3)
def impl_determinantSign.f (k : Nat) (l0 : List (List Int)) : Option (Int) := if (l0.length : Int) = 1 then (if 0 < (l0.length : Int) then (if 0 < ((rd_L2 l0 0).length : Int) then (some (rd (rd_L2 l0 0) 0)) else (none)) else (none)) else (if (l0.length : Int) = 2 then (if 0 < (l0.length : Int) then (if 0 < ((rd_L2 l0 0).length : Int) then (if 1 < (l0.length : Int) then (if 1 < ((rd_L2 l0 1).length : Int) then (if 1 < ((rd_L2 l0 0).length : Int) then (if 0 < ((rd_L2 l0 1).length : Int) then (some (wrap64 ((wrap64 ((rd (rd_L2 l0 0) 0) * (rd (rd_L2 l0 1) 1))) - (wrap64 ((rd (rd_L2 l0 0) 1) * (rd (rd_L2 l0 1) 0)))))) else (none)) else (none)) else (none)) else (none)) else (none)) else (none)) else (impl_determinantSign.l0 k l0 0 0))
theorem impl_determinantSign.mono_l : ∀ k, (∀ y0 y1 y2, LeO (impl_determinantSign.l0 k y0 y1 y2) (impl_determinantSign.l0 (k + 1) y0 y1 y2))
  | 0 => fun _ _ _ r h => by simp [impl_determinantSign.l0] at h
  | k + 1 => by
    have ih0 := impl_determinantSign.mono_l k
    · intro y0 y1 y2
      unfold impl_determinantSign.l0
      repeat' first
      | (with_reducible exact ih0 _ _ _)
      | (with_reducible exact LeO.refl _)
      | (with_reducible exact LeO.none _)
      | (with_reducible refine LeO.ite ?_ ?_)
      | (with_reducible refine LeO.bind ?_ (fun _ => ?_))
      | exact ih0 _ _ _
      | exact LeO.none _
      | refine LeO.ite ?_ ?_
      | refine LeO.bind ?_ (fun _ => ?_)
theorem impl_determinantSign.mono : ∀ a0 k, LeO (impl_determinantSign.f k a0) (impl_determinantSign.f (k + 1) a0) := by
  intro a0 k
  have ih0 := impl_determinantSign.mono_l k
  unfold impl_determinantSign.f
  repeat' first
      | (with_reducible exact ih0 _ _ _)
      | (with_reducible exact LeO.refl _)
      | (with_reducible exact LeO.none _)
      | (with_reducible refine LeO.ite ?_ ?_)
      | (with_reducible refine LeO.bind ?_ (fun _ => ?_))
      | exact ih0 _ _ _
      | exact LeO.none _
      | refine LeO.ite ?_ ?_
      | refine LeO.bind ?_ (fun _ => ?_)
set_option maxHeartbeats 8000000 in
set_option maxRecDepth 100000 in
theorem impl_determinantSign.calls (k : Nat) (A0 : Option Addr) (c0 : Nat) (l0 : List (List Int)) (r : Int) (w : World) (hr0 : Kd.C (Kd.slice 3 (Kd.int .i64)) w A0 l0.length l0) (hc0 : l0.length ≤ c0) (h : impl_determinantSign.f k l0 = some r) :
    Calls Try.prog 62 #[.slice A0 l0.length c0] w fun e w' => e = .returned (.int .i64 r) ∧ Drawn0 w w' := by
  have HR0 := Aside0.mk hr0
  have HC0 := Aside0.mk hc0
  clear hr0 hc0
  have H : (if (l0.length : Int) = 1 then (if 0 < (l0.length : Int) then (if 0 < ((rd_L2 l0 0).length : Int) then (some (rd (rd_L2 l0 0) 0)) else (none)) else (none)) else (if (l0.length : Int) = 2 then (if 0 < (l0.length : Int) then (if 0 < ((rd_L2 l0 0).length : Int) then (if 1 < (l0.length : Int) then (if 1 < ((rd_L2 l0 1).length : Int) then (if 1 < ((rd_L2 l0 0).length : Int) then (if 0 < ((rd_L2 l0 1).length : Int) then (some (wrap64 ((wrap64 ((rd (rd_L2 l0 0) 0) * (rd (rd_L2 l0 1) 1))) - (wrap64 ((rd (rd_L2 l0 0) 1) * (rd (rd_L2 l0 1) 0)))))) else (none)) else (none)) else (none)) else (none)) else (none)) else (none)) else (impl_determinantSign.l0 k l0 0 0))) = some r := h
  clear h
  by_cases c2 : (l0.length : Int) = 1
  · rw [if_pos c2] at H
    have c2b0 : ((l0.length : Int) == 1) = true := beq_iff_eq.mpr c2
    have c2b1 : ((l0.length : Int) != 1) = false := bne_eq_false_iff_eq.mpr c2
    clear c2
    by_cases c3 : 0 < (l0.length : Int)
    · rw [if_pos c3] at H
      have c3b0 : decide (0 < (l0.length : Int)) = true := decide_eq_true c3
      have c3b1 : decide (0 < l0.length) = true := decide_eq_true (by omega)
      clear c3
      by_cases c4 : 0 < ((rd_L2 l0 0).length : Int)
      · rw [if_pos c4] at H
        have c4b0 : decide (0 < ((rd_L2 l0 0).length : Int)) = true := decide_eq_true c4
        have c4b1 : decide (0 < (rd_L2 l0 0).length) = true := decide_eq_true (by omega)
        clear c4
        obtain rfl := Option.some.inj H
        have p332 : 0 ≤ (0 : Int) := (by omega)
        have q332 : 0 < (l0.length : Int) := of_decide_eq_true (by first | (with_reducible assumption) | assumption)
        obtain ⟨ad332, A332_0, c332_0, e332, hx332_0, hl332_0, hi332_0⟩ := at_L2 HR0.out 0 p332 q332
        cases e332
        have qi332 : (0 < l0.length) = True := eq_true (by omega)
        (try rw [show ((0 : Int)).toNat = 0 from rfl] at hx332_0)
        (try rw [Addr.add_zero'] at hx332_0)
        have HR332_0 := Aside0.mk hi332_0
        have HC332_0 := Aside0.mk hl332_0
        clear hi332_0 hl332_0
        replace p332 := eq_true p332
        replace q332 := eq_true q332
        have p333 : 0 ≤ (0 : Int) := (by omega)
        have q333 : 0 < ((rd_L2 l0 0).length : Int) := of_decide_eq_true (by first | (with_reducible assumption) | assumption)
        obtain ⟨ad333, e333, hx333_0⟩ := Kd.at_int HR332_0.out 0 p333 q333
        cases e333
        have qi333 : (0 < (rd_L2 l0 0).length) = True := eq_true (by omega)
        (try rw [show ((0 : Int)).toNat = 0 from rfl] at hx333_0)
        (try rw [Addr.add_zero'] at hx333_0)
        replace p333 := eq_true p333
        replace q333 := eq_true q333
        go_enter Try.func62, Try.ntmps62
        go_wp2
        repeat (go_quiet (fail); try go_wp2)
        go_ret
        exact ⟨by first | rfl | (simp; done) | (simp [*]; done), by repeat (first | exact Drawn0.refl _ | apply Drawn0.step)⟩
      rw [if_neg c4] at H
      exact absurd H (by simp)
    rw [if_neg c3] at H
    exact absurd H (by simp)
  rw [if_neg c2] at H
  have c2b0 : ((l0.length : Int) == 1) = false := beq_eq_false_iff_ne.mpr c2
  have c2b1 : ((l0.length : Int) != 1) = true := bne_iff_ne.mpr c2
  by_cases c5 : (l0.length : Int) = 2
  · rw [if_pos c5] at H
    have c5b0 : ((l0.length : Int) == 2) = true := beq_iff_eq.mpr c5
    have c5b1 : ((l0.length : Int) != 2) = false := bne_eq_false_iff_eq.mpr c5
    clear c5
    by_cases c6 : 0 < (l0.length : Int)
    · rw [if_pos c6] at H
      have c6b0 : decide (0 < (l0.length : Int)) = true := decide_eq_true c6
      have c6b1 : decide (0 < l0.length) = true := decide_eq_true (by omega)
      clear c6
      by_cases c7 : 0 < ((rd_L2 l0 0).length : Int)
      · rw [if_pos c7] at H
        have c7b0 : decide (0 < ((rd_L2 l0 0).length : Int)) = true := decide_eq_true c7
        have c7b1 : decide (0 < (rd_L2 l0 0).length) = true := decide_eq_true (by omega)
        clear c7
        by_cases c8 : 1 < (l0.length : Int)
        · rw [if_pos c8] at H
          have c8b0 : decide (1 < (l0.length : Int)) = true := decide_eq_true c8
          have c8b1 : decide (1 < l0.length) = true := decide_eq_true (by omega)
          clear c8
          by_cases c9 : 1 < ((rd_L2 l0 1).length : Int)
          · rw [if_pos c9] at H
            have c9b0 : decide (1 < ((rd_L2 l0 1).length : Int)) = true := decide_eq_true c9
            have c9b1 : decide (1 < (rd_L2 l0 1).length) = true := decide_eq_true (by omega)
            clear c9
            by_cases c10 : 1 < ((rd_L2 l0 0).length : Int)
            · rw [if_pos c10] at H
              have c10b0 : decide (1 < ((rd_L2 l0 0).length : Int)) = true := decide_eq_true c10
              have c10b1 : decide (1 < (rd_L2 l0 0).length) = true := decide_eq_true (by omega)
              clear c10
              by_cases c11 : 0 < ((rd_L2 l0 1).length : Int)
              · rw [if_pos c11] at H
                have c11b0 : decide (0 < ((rd_L2 l0 1).length : Int)) = true := decide_eq_true c11
                have c11b1 : decide (0 < (rd_L2 l0 1).length) = true := decide_eq_true (by omega)
                clear c11
                obtain rfl := Option.some.inj H
                have p334 : 0 ≤ (0 : Int) := (by omega)
                have q334 : 0 < (l0.length : Int) := of_decide_eq_true (by first | (with_reducible assumption) | assumption)
                obtain ⟨ad334, A334_0, c334_0, e334, hx334_0, hl334_0, hi334_0⟩ := at_L2 HR0.out 0 p334 q334
                cases e334
                have qi334 : (0 < l0.length) = True := eq_true (by omega)
                (try rw [show ((0 : Int)).toNat = 0 from rfl] at hx334_0)
                (try rw [Addr.add_zero'] at hx334_0)
                have HR334_0 := Aside0.mk hi334_0
                have HC334_0 := Aside0.mk hl334_0
                clear hi334_0 hl334_0
                replace p334 := eq_true p334
                replace q334 := eq_true q334
                have p335 : 0 ≤ (0 : Int) := (by omega)
                have q335 : 0 < ((rd_L2 l0 0).length : Int) := of_decide_eq_true (by first | (with_reducible assumption) | assumption)
                obtain ⟨ad335, e335, hx335_0⟩ := Kd.at_int HR334_0.out 0 p335 q335
                cases e335
                have qi335 : (0 < (rd_L2 l0 0).length) = True := eq_true (by omega)
                (try rw [show ((0 : Int)).toNat = 0 from rfl] at hx335_0)
                (try rw [Addr.add_zero'] at hx335_0)
                replace p335 := eq_true p335
                replace q335 := eq_true q335
                have p336 : 0 ≤ (1 : Int) := (by omega)
                have q336 : 1 < (l0.length : Int) := of_decide_eq_true (by first | (with_reducible assumption) | assumption)
                obtain ⟨ad336, A336_0, c336_0, e336, hx336_0, hl336_0, hi336_0⟩ := at_L2 HR0.out 1 p336 q336
                obtain rfl : ad334 = ad336 := (by injection e336)
                (try simp only [show (1 : Int).toNat = 1 from rfl, Nat.reduceMul, Nat.reduceEqDiff, Go.Addr.add, ↓reduceIte] at hx336_0)
                have qi336 : (1 < l0.length) = True := eq_true (by omega)
                (try rw [show ((1 : Int)).toNat = 1 from rfl] at hx336_0)
                have HR336_0 := Aside0.mk hi336_0
                have HC336_0 := Aside0.mk hl336_0
                clear hi336_0 hl336_0
                replace p336 := eq_true p336
                replace q336 := eq_true q336
                have p337 : 0 ≤ (1 : Int) := (by omega)
                have q337 : 1 < ((rd_L2 l0 1).length : Int) := of_decide_eq_true (by first | (with_reducible assumption) | assumption)
                obtain ⟨ad337, e337, hx337_0⟩ := Kd.at_int HR336_0.out 1 p337 q337
                cases e337
                (try simp only [show (1 : Int).toNat = 1 from rfl, Nat.reduceMul, Nat.reduceEqDiff, Go.Addr.add, ↓reduceIte] at hx337_0)
                have qi337 : (1 < (rd_L2 l0 1).length) = True := eq_true (by omega)
                (try rw [show ((1 : Int)).toNat = 1 from rfl] at hx337_0)
                replace p337 := eq_true p337
                replace q337 := eq_true q337
                have p338 : 0 ≤ (0 : Int) := (by omega)
                have q338 : 0 < (l0.length : Int) := of_decide_eq_true (by first | (with_reducible assumption) | assumption)
                obtain ⟨ad338, A338_0, c338_0, e338, hx338_0, hl338_0, hi338_0⟩ := at_L2 HR0.out 0 p338 q338
                obtain rfl : ad334 = ad338 := (by injection e338)
                have qi338 : (0 < l0.length) = True := eq_true (by omega)
                (try rw [show ((0 : Int)).toNat = 0 from rfl] at hx338_0)
                (try rw [Addr.add_zero'] at hx338_0)
                have HR338_0 := Aside0.mk hi338_0
                have HC338_0 := Aside0.mk hl338_0
                clear hi338_0 hl338_0
                replace p338 := eq_true p338
                replace q338 := eq_true q338
                have ea_ := Option.some.inj (hx334_0.symm.trans hx338_0)
                injection ea_ with ea_ en_ ec_
                subst ea_
                subst ec_
                clear en_
                have p339 : 0 ≤ (1 : Int) := (by omega)
                have q339 : 1 < ((rd_L2 l0 0).length : Int) := of_decide_eq_true (by first | (with_reducible assumption) | assumption)
                obtain ⟨ad339, e339, hx339_0⟩ := Kd.at_int HR338_0.out 1 p339 q339
                cases e339
                (try simp only [show (1 : Int).toNat = 1 from rfl, Nat.reduceMul, Nat.reduceEqDiff, Go.Addr.add, ↓reduceIte] at hx339_0)
                have qi339 : (1 < (rd_L2 l0 0).length) = True := eq_true (by omega)
                (try rw [show ((1 : Int)).toNat = 1 from rfl] at hx339_0)
                replace p339 := eq_true p339
                replace q339 := eq_true q339
                have p340 : 0 ≤ (1 : Int) := (by omega)
                have q340 : 1 < (l0.length : Int) := of_decide_eq_true (by first | (with_reducible assumption) | assumption)
                obtain ⟨ad340, A340_0, c340_0, e340, hx340_0, hl340_0, hi340_0⟩ := at_L2 HR0.out 1 p340 q340
                obtain rfl : ad334 = ad340 := (by injection e340)
                (try simp only [show (1 : Int).toNat = 1 from rfl, Nat.reduceMul, Nat.reduceEqDiff, Go.Addr.add, ↓reduceIte] at hx340_0)
                have qi340 : (1 < l0.length) = True := eq_true (by omega)
                (try rw [show ((1 : Int)).toNat = 1 from rfl] at hx340_0)
                have HR340_0 := Aside0.mk hi340_0
                have HC340_0 := Aside0.mk hl340_0
                clear hi340_0 hl340_0
                replace p340 := eq_true p340
                replace q340 := eq_true q340
                have ea_ := Option.some.inj (hx336_0.symm.trans hx340_0)
                injection ea_ with ea_ en_ ec_
                subst ea_
                subst ec_
                clear en_
                have p341 : 0 ≤ (0 : Int) := (by omega)
                have q341 : 0 < ((rd_L2 l0 1).length : Int) := of_decide_eq_true (by first | (with_reducible assumption) | assumption)
                obtain ⟨ad341, e341, hx341_0⟩ := Kd.at_int HR340_0.out 0 p341 q341
                cases e341
                have qi341 : (0 < (rd_L2 l0 1).length) = True := eq_true (by omega)
                (try rw [show ((0 : Int)).toNat = 0 from rfl] at hx341_0)
                (try rw [Addr.add_zero'] at hx341_0)
                replace p341 := eq_true p341
                replace q341 := eq_true q341
                go_enter Try.func62, Try.ntmps62
                go_wp2
                repeat (go_quiet (fail); try go_wp2)
                go_ret
                exact ⟨by first | rfl | (simp; done) | (simp [*]; done), by repeat (first | exact Drawn0.refl _ | apply Drawn0.step)⟩
              rw [if_neg c11] at H
              exact absurd H (by simp)
            rw [if_neg c10] at H
            exact absurd H (by simp)
          rw [if_neg c9] at H
          exact absurd H (by simp)
        rw [if_neg c8] at H
        exact absurd H (by simp)
      rw [if_neg c7] at H
      exact absurd H (by simp)
    rw [if_neg c6] at H
    exact absurd H (by simp)
  rw [if_neg c5] at H
  have c5b0 : ((l0.length : Int) == 2) = false := beq_eq_false_iff_ne.mpr c5
  have c5b1 : ((l0.length : Int) != 2) = true := bne_iff_ne.mpr c5
  have H' := Aside0.mk H
  clear H
  go_enter Try.func62, Try.ntmps62
  go_wp2
  repeat (go_quiet (fail); try go_wp2)
  go_loopg [3, 41] k (fun kq v3 v41 w' => ∃ (x3_1 : Int) (x41_1 : Int), v3 = .int .i64 x3_1 ∧ v41 = .int .i64 x41_1 ∧ Aside0 (impl_determinantSign.l0 kq l0 x3_1 x41_1 = some r) ∧ Aside0 (kq ≤ k) ∧ Drawn0 w w')
  case atStart => exact ⟨(0), (0), (by first | rfl | (simp; done) | (simp [*]; done)), (by first | rfl | (simp; done) | (simp [*]; done)), H', ⟨Nat.le_refl _⟩, by repeat (first | exact Drawn0.refl _ | apply Drawn0.step)⟩
  case round =>
    clear H'
    try clear c1
    try clear c2
    try clear c2b0
    try clear c2b1
    try clear p2
    try clear c3
    try clear c3b0
    try clear c3b1
    try clear p3
    try clear q3
    try clear hx3
    try clear qi3
    try clear c4
    try clear c4b0
    try clear c4b1
    try clear c5
    try clear c5b0
    try clear c5b1
    try clear c6
    try clear c6b0
    try clear c6b1
    try clear p6
    try clear c7
    try clear c7b0
    try clear c7b1
    try clear c8
    try clear c8b0
    try clear c8b1
    try clear c9
    try clear c9b0
    try clear c9b1
    try clear c10
    try clear c10b0
    try clear c10b1
    try clear c11
    try clear c11b0
    try clear c11b1
    try clear hx332_0
    try clear hx333_0
    try clear hx334_0
    try clear hx335_0
    try clear hx336_0
    try clear hx337_0
    try clear hx338_0
    try clear hx339_0
    try clear hx340_0
    try clear hx341_0
    try clear p332
    try clear p333
    try clear p334
    try clear p335
    try clear p336
    try clear p337
    try clear p338
    try clear p339
    try clear p340
    try clear p341
    try clear q332
    try clear q333
    try clear q334
    try clear q335
    try clear q336
    try clear q337
    try clear q338
    try clear q339
    try clear q340
    try clear q341
    obtain ⟨x3_1, x41_1, rfl, rfl, HA, HK1, ⟨m1, rfl⟩⟩ := hrel
    cases gk with
    | zero => exact absurd HA.out (by simp [impl_determinantSign.l0])
    | succ k1 =>
      have H := HA.out
      clear HA
      simp only [impl_determinantSign.l0] at H
      by_cases c12 : x41_1 < 3
      · rw [if_pos c12] at H
        have c12b0 : decide (x41_1 < 3) = true := decide_eq_true c12
        clear c12
        by_cases c13 : 0 < (l0.length : Int)
        · rw [if_pos c13] at H
          have c13b0 : decide (0 < (l0.length : Int)) = true := decide_eq_true c13
          have c13b1 : decide (0 < l0.length) = true := decide_eq_true (by omega)
          clear c13
          by_cases c14 : 0 ≤ x41_1
          · rw [if_pos c14] at H
            have c14b0 : decide (0 ≤ x41_1) = true := decide_eq_true c14
            clear c14
            by_cases c15 : x41_1 < ((rd_L2 l0 0).length : Int)
            · rw [if_pos c15] at H
              have c15b0 : decide (x41_1 < ((rd_L2 l0 0).length : Int)) = true := decide_eq_true c15
              clear c15
              by_cases c16 : 1 < (l0.length : Int)
              · rw [if_pos c16] at H
                have c16b0 : decide (1 < (l0.length : Int)) = true := decide_eq_true c16
                have c16b1 : decide (1 < l0.length) = true := decide_eq_true (by omega)
                clear c16
                obtain ⟨ji17, hji17⟩ : ∃ j_ : Int, (Int.tmod (wrap64 (x41_1 + 1)) 3) = j_ := ⟨_, rfl⟩
                replace H : (if 0 ≤ (ji17) then (if (ji17) < ((rd_L2 l0 1).length : Int) then (if 2 < (l0.length : Int) then (if 0 ≤ (Int.tmod (wrap64 (x41_1 + 2)) 3) then (if (Int.tmod (wrap64 (x41_1 + 2)) 3) < ((rd_L2 l0 2).length : Int) then (if (Int.tmod (wrap64 (x41_1 + 2)) 3) < ((rd_L2 l0 1).length : Int) then (if (ji17) < ((rd_L2 l0 2).length : Int) then (impl_determinantSign.l0 k1 l0 (wrap64 (x3_1 + (wrap64 ((rd (rd_L2 l0 0) x41_1) * (wrap64 ((wrap64 ((rd (rd_L2 l0 1) (ji17)) * (rd (rd_L2 l0 2) (Int.tmod (wrap64 (x41_1 + 2)) 3)))) - (wrap64 ((rd (rd_L2 l0 1) (Int.tmod (wrap64 (x41_1 + 2)) 3)) * (rd (rd_L2 l0 2) (ji17)))))))))) (wrap64 (x41_1 + 1))) else (none)) else (none)) else (none)) else (none)) else (none)) else (none)) else (none)) = some r := by first | (rw [hji17] at H; exact H) | (simp only [hji17] at H ⊢; exact H)
                by_cases c18 : 0 ≤ (ji17)
                · rw [if_pos c18] at H
                  have c18b0 : decide (0 ≤ (ji17)) = true := decide_eq_true c18
                  clear c18
                  by_cases c19 : (ji17) < ((rd_L2 l0 1).length : Int)
                  · rw [if_pos c19] at H
                    have c19b0 : decide ((ji17) < ((rd_L2 l0 1).length : Int)) = true := decide_eq_true c19
                    clear c19
                    by_cases c20 : 2 < (l0.length : Int)
                    · rw [if_pos c20] at H
                      have c20b0 : decide (2 < (l0.length : Int)) = true := decide_eq_true c20
                      have c20b1 : decide (2 < l0.length) = true := decide_eq_true (by omega)
                      clear c20
                      obtain ⟨ji21, hji21⟩ : ∃ j_ : Int, (Int.tmod (wrap64 (x41_1 + 2)) 3) = j_ := ⟨_, rfl⟩
                      replace H : (if 0 ≤ (ji21) then (if (ji21) < ((rd_L2 l0 2).length : Int) then (if (ji21) < ((rd_L2 l0 1).length : Int) then (if (ji17) < ((rd_L2 l0 2).length : Int) then (impl_determinantSign.l0 k1 l0 (wrap64 (x3_1 + (wrap64 ((rd (rd_L2 l0 0) x41_1) * (wrap64 ((wrap64 ((rd (rd_L2 l0 1) (ji17)) * (rd (rd_L2 l0 2) (ji21)))) - (wrap64 ((rd (rd_L2 l0 1) (ji21)) * (rd (rd_L2 l0 2) (ji17)))))))))) (wrap64 (x41_1 + 1))) else (none)) else (none)) else (none)) else (none)) = some r := by first | (rw [hji21] at H; exact H) | (simp only [hji21] at H ⊢; exact H)
                      by_cases c22 : 0 ≤ (ji21)
                      · rw [if_pos c22] at H
                        have c22b0 : decide (0 ≤ (ji21)) = true := decide_eq_true c22
                        clear c22
                        by_cases c23 : (ji21) < ((rd_L2 l0 2).length : Int)
                        · rw [if_pos c23] at H
                          have c23b0 : decide ((ji21) < ((rd_L2 l0 2).length : Int)) = true := decide_eq_true c23
                          clear c23
                          by_cases c24 : (ji21) < ((rd_L2 l0 1).length : Int)
                          · rw [if_pos c24] at H
                            have c24b0 : decide ((ji21) < ((rd_L2 l0 1).length : Int)) = true := decide_eq_true c24
                            clear c24
                            by_cases c25 : (ji17) < ((rd_L2 l0 2).length : Int)
                            · rw [if_pos c25] at H
                              have c25b0 : decide ((ji17) < ((rd_L2 l0 2).length : Int)) = true := decide_eq_true c25
                              clear c25
                              have H' := Aside0.mk H
                              clear H
                              have p342 : 0 ≤ (0 : Int) := (by omega)
                              have q342 : 0 < (l0.length : Int) := of_decide_eq_true (by first | (with_reducible assumption) | assumption)
                              obtain ⟨ad342, A342_0, c342_0, e342, hx342_0, hl342_0, hi342_0⟩ := at_L2 HR0.out 0 p342 q342
                              cases e342
                              have qi342 : (0 < l0.length) = True := eq_true (by omega)
                              (try rw [show ((0 : Int)).toNat = 0 from rfl] at hx342_0)
                              (try rw [Addr.add_zero'] at hx342_0)
                              have HR342_0 := Aside0.mk hi342_0
                              have HC342_0 := Aside0.mk hl342_0
                              clear hi342_0 hl342_0
                              replace p342 := eq_true p342
                              replace q342 := eq_true q342
                              have p343 : 0 ≤ (x41_1 : Int) := of_decide_eq_true (by first | (with_reducible assumption) | assumption)
                              have q343 : x41_1 < ((rd_L2 l0 0).length : Int) := of_decide_eq_true (by first | (with_reducible assumption) | assumption)
                              obtain ⟨ad343, e343, hx343_0⟩ := Kd.at_int HR342_0.out x41_1 p343 q343
                              cases e343
                              replace p343 := eq_true p343
                              replace q343 := eq_true q343
                              have p344 : 0 ≤ (1 : Int) := (by omega)
                              have q344 : 1 < (l0.length : Int) := of_decide_eq_true (by first | (with_reducible assumption) | assumption)
                              obtain ⟨ad344, A344_0, c344_0, e344, hx344_0, hl344_0, hi344_0⟩ := at_L2 HR0.out 1 p344 q344
                              obtain rfl : ad342 = ad344 := (by injection e344)
                              (try simp only [show (1 : Int).toNat = 1 from rfl, Nat.reduceMul, Nat.reduceEqDiff, Go.Addr.add, ↓reduceIte] at hx344_0)
                              have qi344 : (1 < l0.length) = True := eq_true (by omega)
                              (try rw [show ((1 : Int)).toNat = 1 from rfl] at hx344_0)
                              have HR344_0 := Aside0.mk hi344_0
                              have HC344_0 := Aside0.mk hl344_0
                              clear hi344_0 hl344_0
                              replace p344 := eq_true p344
                              replace q344 := eq_true q344
                              have p345 : 0 ≤ ((ji17) : Int) := of_decide_eq_true (by first | (with_reducible assumption) | assumption)
                              have q345 : (ji17) < ((rd_L2 l0 1).length : Int) := of_decide_eq_true (by first | (with_reducible assumption) | assumption)
                              obtain ⟨ad345, e345, hx345_0⟩ := Kd.at_int HR344_0.out (ji17) p345 q345
                              cases e345
                              replace p345 := eq_true p345
                              replace q345 := eq_true q345
                              have p346 : 0 ≤ (2 : Int) := (by omega)
                              have q346 : 2 < (l0.length : Int) := of_decide_eq_true (by first | (with_reducible assumption) | assumption)
                              obtain ⟨ad346, A346_0, c346_0, e346, hx346_0, hl346_0, hi346_0⟩ := at_L2 HR0.out 2 p346 q346
                              obtain rfl : ad342 = ad346 := (by injection e346)
                              (try simp only [show (2 : Int).toNat = 2 from rfl, Nat.reduceMul, Nat.reduceEqDiff, Go.Addr.add, ↓reduceIte] at hx346_0)
                              have qi346 : (2 < l0.length) = True := eq_true (by omega)
                              (try rw [show ((2 : Int)).toNat = 2 from rfl] at hx346_0)
                              have HR346_0 := Aside0.mk hi346_0
                              have HC346_0 := Aside0.mk hl346_0
                              clear hi346_0 hl346_0
                              replace p346 := eq_true p346
                              replace q346 := eq_true q346
                              have p347 : 0 ≤ ((ji21) : Int) := of_decide_eq_true (by first | (with_reducible assumption) | assumption)
                              have q347 : (ji21) < ((rd_L2 l0 2).length : Int) := of_decide_eq_true (by first | (with_reducible assumption) | assumption)
                              obtain ⟨ad347, e347, hx347_0⟩ := Kd.at_int HR346_0.out (ji21) p347 q347
                              cases e347
                              replace p347 := eq_true p347
                              replace q347 := eq_true q347
                              have p348 : 0 ≤ (1 : Int) := (by omega)
                              have q348 : 1 < (l0.length : Int) := of_decide_eq_true (by first | (with_reducible assumption) | assumption)
                              obtain ⟨ad348, A348_0, c348_0, e348, hx348_0, hl348_0, hi348_0⟩ := at_L2 HR0.out 1 p348 q348
                              obtain rfl : ad342 = ad348 := (by injection e348)
                              (try simp only [show (1 : Int).toNat = 1 from rfl, Nat.reduceMul, Nat.reduceEqDiff, Go.Addr.add, ↓reduceIte] at hx348_0)
                              have qi348 : (1 < l0.length) = True := eq_true (by omega)
                              (try rw [show ((1 : Int)).toNat = 1 from rfl] at hx348_0)
                              have HR348_0 := Aside0.mk hi348_0
                              have HC348_0 := Aside0.mk hl348_0
                              clear hi348_0 hl348_0
                              replace p348 := eq_true p348
                              replace q348 := eq_true q348
                              have ea_ := Option.some.inj (hx344_0.symm.trans hx348_0)
                              injection ea_ with ea_ en_ ec_
                              subst ea_
                              subst ec_
                              clear en_
                              have p349 : 0 ≤ ((ji21) : Int) := of_decide_eq_true (by first | (with_reducible assumption) | assumption)
                              have q349 : (ji21) < ((rd_L2 l0 1).length : Int) := of_decide_eq_true (by first | (with_reducible assumption) | assumption)
                              obtain ⟨ad349, e349, hx349_0⟩ := Kd.at_int HR348_0.out (ji21) p349 q349
                              cases e349
                              replace p349 := eq_true p349
                              replace q349 := eq_true q349
                              have p350 : 0 ≤ (2 : Int) := (by omega)
                              have q350 : 2 < (l0.length : Int) := of_decide_eq_true (by first | (with_reducible assumption) | assumption)
                              obtain ⟨ad350, A350_0, c350_0, e350, hx350_0, hl350_0, hi350_0⟩ := at_L2 HR0.out 2 p350 q350
                              obtain rfl : ad342 = ad350 := (by injection e350)
                              (try simp only [show (2 : Int).toNat = 2 from rfl, Nat.reduceMul, Nat.reduceEqDiff, Go.Addr.add, ↓reduceIte] at hx350_0)
                              have qi350 : (2 < l0.length) = True := eq_true (by omega)
                              (try rw [show ((2 : Int)).toNat = 2 from rfl] at hx350_0)
                              have HR350_0 := Aside0.mk hi350_0
                              have HC350_0 := Aside0.mk hl350_0
                              clear hi350_0 hl350_0
                              replace p350 := eq_true p350
                              replace q350 := eq_true q350
                              have ea_ := Option.some.inj (hx346_0.symm.trans hx350_0)
                              injection ea_ with ea_ en_ ec_
                              subst ea_
                              subst ec_
                              clear en_
                              have p351 : 0 ≤ ((ji17) : Int) := of_decide_eq_true (by first | (with_reducible assumption) | assumption)
                              have q351 : (ji17) < ((rd_L2 l0 2).length : Int) := of_decide_eq_true (by first | (with_reducible assumption) | assumption)
                              obtain ⟨ad351, e351, hx351_0⟩ := Kd.at_int HR350_0.out (ji17) p351 q351
                              cases e351
                              replace p351 := eq_true p351
                              replace q351 := eq_true q351
                              go_wp2
                              repeat (go_quiet (fail); try go_wp2)
                              go_roundg k1
                              case measure => have := HK1.out; omega
                              case rel => exact ⟨(wrap64 (x3_1 + (wrap64 ((rd (rd_L2 l0 0) x41_1) * (wrap64 ((wrap64 ((rd (rd_L2 l0 1) (ji17)) * (rd (rd_L2 l0 2) (ji21)))) - (wrap64 ((rd (rd_L2 l0 1) (ji21)) * (rd (rd_L2 l0 2) (ji17)))))))))), (wrap64 (x41_1 + 1)), (by first | rfl | (simp; done) | (simp only [← hji17, ← hji21] <;> (first | rfl | simp)) | (simp [*]; done)), (by first | rfl | (simp; done) | (simp [*]; done)), H', ⟨by have := HK1.out; omega⟩, by repeat (first | exact Drawn0.refl _ | apply Drawn0.step)⟩
                            rw [if_neg c25] at H
                            exact absurd H (by simp)
                          rw [if_neg c24] at H
                          exact absurd H (by simp)
                        rw [if_neg c23] at H
                        exact absurd H (by simp)
                      rw [if_neg c22] at H
                      exact absurd H (by simp)
                    rw [if_neg c20] at H
                    exact absurd H (by simp)
                  rw [if_neg c19] at H
                  exact absurd H (by simp)
                rw [if_neg c18] at H
                exact absurd H (by simp)
              rw [if_neg c16] at H
              exact absurd H (by simp)
            rw [if_neg c15] at H
            exact absurd H (by simp)
          rw [if_neg c14] at H
          exact absurd H (by simp)
        rw [if_neg c13] at H
        exact absurd H (by simp)
      rw [if_neg c12] at H
      have c12b0 : decide (x41_1 < 3) = false := decide_eq_false c12
      clear c12
      obtain rfl := Option.some.inj H
      go_wp2
      repeat (go_quiet (fail); try go_wp2)
      go_ret
      exact ⟨by first | rfl | (simp; done) | (simp [*]; done), by repeat (first | exact Drawn0.refl _ | apply Drawn0.step)⟩

/-! ### impl_MoveSign: function 20 -/
def impl_MoveSign.f (k : Nat) (l0 : List Int) (l1_0 : List (List Int)) (a1_1 : Int) : Option (Int) := (impl_MoveValid.f k l0 l1_0 a1_1).bind fun t353 => (if t353 = true then ((impl_determinantSign.f k l1_0).bind fun t354 => (if t354 > 0 then (some 1) else (some (-1)))) else (some 0))
theorem impl_MoveSign.mono : ∀ a0 a1 a2 k, LeO (impl_MoveSign.f k a0 a1 a2) (impl_MoveSign.f (k + 1) a0 a1 a2) := by
  intro a0 a1 a2 k
  unfold impl_MoveSign.f
  repeat' first
      | (with_reducible exact impl_MoveValid.mono _ _ _ _)
      | (with_reducible exact impl_determinantSign.mono _ _)
      | (with_reducible exact LeO.refl _)
      | (with_reducible exact LeO.none _)
      | (with_reducible refine LeO.ite ?_ ?_)
      | (with_reducible refine LeO.bind ?_ (fun _ => ?_))
      | exact impl_MoveValid.mono _ _ _ _
      | exact impl_determinantSign.mono _ _
      | exact LeO.none _
      | refine LeO.ite ?_ ?_
      | refine LeO.bind ?_ (fun _ => ?_)
set_option maxHeartbeats 8000000 in
set_option maxRecDepth 100000 in
theorem impl_MoveSign.calls (k : Nat) (A0 : Option Addr) (c0 : Nat) (l0 : List Int) (A1_0 : Option Addr) (c1_0 : Nat) (l1_0 : List (List Int)) (a1_1 : Int) (r : Int) (w : World) (hr0 : Kd.C (Kd.int .i64) w A0 l0.length l0) (hc0 : l0.length ≤ c0) (hr1_0 : Kd.C (Kd.slice 3 (Kd.int .i64)) w A1_0 l1_0.length l1_0) (hc1_0 : l1_0.length ≤ c1_0) (h : impl_MoveSign.f k l0 l1_0 a1_1 = some r) :
    Calls Try.prog 20 #[.slice A0 l0.length c0, .agg #[.slice A1_0 l1_0.length c1_0, .int .i64 a1_1]] w fun e w' => e = .returned (.int .i64 r) ∧ Below w.heap.size w w' := by
  have hu27 := Try.underlying27
  have HR0 := Aside0.mk hr0
  have HC0 := Aside0.mk hc0
  clear hr0 hc0
  have HR1_0 := Aside0.mk hr1_0
  have HC1_0 := Aside0.mk hc1_0
  clear hr1_0 hc1_0
  have HB := Aside0.mk (Below.refl w.heap.size w)
  have H : ((impl_MoveValid.f k l0 l1_0 a1_1).bind fun t353 => (if t353 = true then ((impl_determinantSign.f k l1_0).bind fun t354 => (if t354 > 0 then (some 1) else (some (-1)))) else (some 0))) = some r := h
  clear h
  replace H := Option.bind_eq_some_iff.mp H
  obtain ⟨t353, A30, H⟩ := H
  replace H : (if t353 = true then ((impl_determinantSign.f k l1_0).bind fun t354 => (if t354 > 0 then (some 1) else (some (-1)))) else (some 0)) = some r := H
  have A3 := Aside0.mk A30
  clear A30
  by_cases c4 : t353 = true
  · subst c4
    have H1 : ((impl_determinantSign.f k l1_0).bind fun t354 => (if t354 > 0 then (some 1) else (some (-1)))) = some r := by rw [if_pos rfl] at H; exact H
    clear H
    have H := H1
    clear H1
    replace H := Option.bind_eq_some_iff.mp H
    obtain ⟨t354, A50, H⟩ := H
    replace H : (if t354 > 0 then (some 1) else (some (-1))) = some r := H
    have A5 := Aside0.mk A50
    clear A50
    by_cases c6 : t354 > 0
    · rw [if_pos c6] at H
      have c6b0 : decide (0 < t354) = true := decide_eq_true c6
      clear c6
      obtain rfl := Option.some.inj H
      go_enter Try.func20, Try.ntmps20
      go_wp2_with (first | ((with_reducible refine gate_dst (N := 3) rfl ?_); refine box_event ?hg (N := 3) ?hd (cs := #[.slice A1_0 l1_0.length c1_0, .int .i64 a1_1]) (t := 27) ?hr ?_; (case hd => rfl); (case hg => rfl); (case hr => first | (go_simp; done) | (go_simp; rfl)); intro gb352 hg w7 hbox hb; have n0_ := Aside0.mk (below_step (by repeat (first | (with_reducible first | exact HB.out | apply below_alloc | apply pw_below_drewN | apply below_drew1) | exact HB.out | exact Below.refl _ _)) hb); have n1_ := Aside0.mk (hbox); have n2_ := Aside0.mk ((by rw [hg]; exact (below_size (by repeat (first | (with_reducible first | exact HB.out | apply below_alloc | apply pw_below_drewN | apply below_drew1) | exact HB.out | exact Below.refl _ _))) : w.heap.size ≤ gb352)); have n3_ := Aside0.mk ((by rw [hg]; exact (below_size (by repeat (first | (with_reducible first | exact HB.out | apply below_alloc | apply pw_below_drewN | apply below_drew1) | exact HB.out | exact Below.refl _ _))) : w.heap.size ≤ gb352)); try clear HB; have HB := n0_; have BK352 := n1_; have GW352 := n2_; have GE352 := n3_; clear n0_ n1_ n2_ n3_; clear hb hbox hg; have hcz8_0 : w7.cell? ⟨gb352, 0, none⟩ = some (.slice A1_0 l1_0.length c1_0) := (blk_cell BK352.out 0).trans rfl; have hcz8_1 : w7.cell? ⟨gb352, 1, none⟩ = some (.int .i64 a1_1) := (blk_cell BK352.out 1).trans rfl; have hfz8_0 := blk_frozen BK352.out 0; have hfz8_1 := blk_frozen BK352.out 1) | ((with_reducible refine gate_callee (f := 21) rfl ?_); refine goesL_ (some 7) rfl rfl Try.func21 (by kernel_rfl) rfl #[.slice A0 l0.length c0, .agg #[.slice A1_0 l1_0.length c1_0, .int .i64 a1_1]] rfl (by (try simp only [List.map_toArray, List.map_cons, List.map_nil]); first | done | rfl | (simp only [List.length_drop, List.length_take]; rfl)) ?_; (with_reducible refine (impl_MoveValid.calls k _ _ l0 _ _ l1_0 a1_1 true _ ?side1 ?side2 ?side3 ?side4 A3.out).mono ?_); (case side1 => repeat (first | exact (Kd.C_below HR0.out HB.out) | (with_reducible refine Kd.C_alloc ?_ _) | (with_reducible refine Kd.C_drewN ?_ _) | (with_reducible refine Kd.C_drew ?_))); (case side2 => exact HC0.out); (case side3 => repeat (first | exact (Kd.C_below HR1_0.out HB.out) | (with_reducible refine Kd.C_alloc ?_ _) | (with_reducible refine Kd.C_drewN ?_ _) | (with_reducible refine Kd.C_drew ?_))); (case side4 => exact HC1_0.out); rintro e w9 ⟨rfl, hb⟩; refine ⟨_, rfl, ?_⟩; have n0_ := Aside0.mk (blk_below (g := gb352) (o := .cells #[.slice A1_0 l1_0.length c1_0, .int .i64 a1_1] 27 (0, 0)) (by (with_reducible repeat (first | refine blk_drewN ?_ _ | refine blk_drew ?_ | refine blk_alloc ?_ _)); exact BK352.out) hb); have n1_ := Aside0.mk (below_step (by repeat (first | (with_reducible first | exact HB.out | apply below_alloc | apply pw_below_drewN | apply below_drew1 | refine below_set ?_ GE352.out) | exact HB.out)) hb); clear BK352; try clear HB; have BK352 := n0_; have HB := n1_; clear n0_ n1_; (try clear hb); (try clear hb2); (try clear hk); (try clear hi); have hcz10_0 : w9.cell? ⟨gb352, 0, none⟩ = some (.slice A1_0 l1_0.length c1_0) := (blk_cell BK352.out 0).trans rfl; have hcz10_1 : w9.cell? ⟨gb352, 1, none⟩ = some (.int .i64 a1_1) := (blk_cell BK352.out 1).trans rfl; have hfz10_0 := blk_frozen BK352.out 0; have hfz10_1 := blk_frozen BK352.out 1) | ((with_reducible refine gate_callee (f := 62) rfl ?_); refine goesL_ (some 11) rfl rfl Try.func62 (by kernel_rfl) rfl #[.slice A1_0 l1_0.length c1_0] rfl (by (try simp only [List.map_toArray, List.map_cons, List.map_nil]); first | done | rfl | (simp only [List.length_drop, List.length_take]; rfl)) ?_; (with_reducible refine (impl_determinantSign.calls k _ _ l1_0 t354 _ ?side1 ?side2 A5.out).mono ?_); (case side1 => repeat (first | exact (Kd.C_below HR1_0.out HB.out) | (with_reducible refine Kd.C_alloc ?_ _) | (with_reducible refine Kd.C_drewN ?_ _) | (with_reducible refine Kd.C_drew ?_))); (case side2 => exact HC1_0.out); rintro e w' ⟨rfl, ⟨nd, rfl⟩⟩; refine ⟨_, rfl, ?_⟩))
      go_ret
      exact ⟨by first | rfl | (simp [errW_none, errW_some] <;> rfl) | (simp [*, errW_none, errW_some] <;> rfl), by repeat (first | (with_reducible first | exact HB.out | apply below_alloc | apply pw_below_drewN | apply below_drew1 | refine below_set ?_ GE352.out) | exact HB.out)⟩
    rw [if_neg c6] at H
    have c6b0 : decide (0 < t354) = false := decide_eq_false c6
    clear c6
    obtain rfl := Option.some.inj H
    go_enter Try.func20, Try.ntmps20
    go_wp2_with (first | ((with_reducible refine gate_dst (N := 3) rfl ?_); refine box_event ?hg (N := 3) ?hd (cs := #[.slice A1_0 l1_0.length c1_0, .int .i64 a1_1]) (t := 27) ?hr ?_; (case hd => rfl); (case hg => rfl); (case hr => first | (go_simp; done) | (go_simp; rfl)); intro gb352 hg w11 hbox hb; have n0_ := Aside0.mk (below_step (by repeat (first | (with_reducible first | exact HB.out | apply below_alloc | apply pw_below_drewN | apply below_drew1) | exact HB.out | exact Below.refl _ _)) hb); have n1_ := Aside0.mk (hbox); have n2_ := Aside0.mk ((by rw [hg]; exact (below_size (by repeat (first | (with_reducible first | exact HB.out | apply below_alloc | apply pw_below_drewN | apply below_drew1) | exact HB.out | exact Below.refl _ _))) : w.heap.size ≤ gb352)); have n3_ := Aside0.mk ((by rw [hg]; exact (below_size (by repeat (first | (with_reducible first | exact HB.out | apply below_alloc | apply pw_below_drewN | apply below_drew1) | exact HB.out | exact Below.refl _ _))) : w.heap.size ≤ gb352)); try clear HB; have HB := n0_; have BK352 := n1_; have GW352 := n2_; have GE352 := n3_; clear n0_ n1_ n2_ n3_; clear hb hbox hg; have hcz12_0 : w11.cell? ⟨gb352, 0, none⟩ = some (.slice A1_0 l1_0.length c1_0) := (blk_cell BK352.out 0).trans rfl; have hcz12_1 : w11.cell? ⟨gb352, 1, none⟩ = some (.int .i64 a1_1) := (blk_cell BK352.out 1).trans rfl; have hfz12_0 := blk_frozen BK352.out 0; have hfz12_1 := blk_frozen BK352.out 1) | ((with_reducible refine gate_callee (f := 21) rfl ?_); refine goesL_ (some 7) rfl rfl Try.func21 (by kernel_rfl) rfl #[.slice A0 l0.length c0, .agg #[.slice A1_0 l1_0.length c1_0, .int .i64 a1_1]] rfl (by (try simp only [List.map_toArray, List.map_cons, List.map_nil]); first | done | rfl | (simp only [List.length_drop, List.length_take]; rfl)) ?_; (with_reducible refine (impl_MoveValid.calls k _ _ l0 _ _ l1_0 a1_1 true _ ?side1 ?side2 ?side3 ?side4 A3.out).mono ?_); (case side1 => repeat (first | exact (Kd.C_below HR0.out HB.out) | (with_reducible refine Kd.C_alloc ?_ _) | (with_reducible refine Kd.C_drewN ?_ _) | (with_reducible refine Kd.C_drew ?_))); (case side2 => exact HC0.out); (case side3 => repeat (first | exact (Kd.C_below HR1_0.out HB.out) | (with_reducible refine Kd.C_alloc ?_ _) | (with_reducible refine Kd.C_drewN ?_ _) | (with_reducible refine Kd.C_drew ?_))); (case side4 => exact HC1_0.out); rintro e w13 ⟨rfl, hb⟩; refine ⟨_, rfl, ?_⟩; have n0_ := Aside0.mk (blk_below (g := gb352) (o := .cells #[.slice A1_0 l1_0.length c1_0, .int .i64 a1_1] 27 (0, 0)) (by (with_reducible repeat (first | refine blk_drewN ?_ _ | refine blk_drew ?_ | refine blk_alloc ?_ _)); exact BK352.out) hb); have n1_ := Aside0.mk (below_step (by repeat (first | (with_reducible first | exact HB.out | apply below_alloc | apply pw_below_drewN | apply below_drew1 | refine below_set ?_ GE352.out) | exact HB.out)) hb); clear BK352; try clear HB; have BK352 := n0_; have HB := n1_; clear n0_ n1_; (try clear hb); (try clear hb2); (try clear hk); (try clear hi); have hcz14_0 : w13.cell? ⟨gb352, 0, none⟩ = some (.slice A1_0 l1_0.length c1_0) := (blk_cell BK352.out 0).trans rfl; have hcz14_1 : w13.cell? ⟨gb352, 1, none⟩ = some (.int .i64 a1_1) := (blk_cell BK352.out 1).trans rfl; have hfz14_0 := blk_frozen BK352.out 0; have hfz14_1 := blk_frozen BK352.out 1) | ((with_reducible refine gate_callee (f := 62) rfl ?_); refine goesL_ (some 11) rfl rfl Try.func62 (by kernel_rfl) rfl #[.slice A1_0 l1_0.length c1_0] rfl (by (try simp only [List.map_toArray, List.map_cons, List.map_nil]); first | done | rfl | (simp only [List.length_drop, List.length_take]; rfl)) ?_; (with_reducible refine (impl_determinantSign.calls k _ _ l1_0 t354 _ ?side1 ?side2 A5.out).mono ?_); (case side1 => repeat (first | exact (Kd.C_below HR1_0.out HB.out) | (with_reducible refine Kd.C_alloc ?_ _) | (with_reducible refine Kd.C_drewN ?_ _) | (with_reducible refine Kd.C_drew ?_))); (case side2 => exact HC1_0.out); rintro e w' ⟨rfl, ⟨nd, rfl⟩⟩; refine ⟨_, rfl, ?_⟩))
    go_ret
    exact ⟨by first | rfl | (simp [errW_none, errW_some] <;> rfl) | (simp [*, errW_none, errW_some] <;> rfl), by repeat (first | (with_reducible first | exact HB.out | apply below_alloc | apply pw_below_drewN | apply below_drew1 | refine below_set ?_ GE352.out) | exact HB.out)⟩
  replace c4 := Bool.eq_false_iff.mpr c4
  subst c4
  have H1 : (some 0) = some r := by rw [if_neg (show ¬ (false = true) by decide)] at H; exact H
  clear H
  have H := H1
  clear H1
  obtain rfl := Option.some.inj H
  go_enter Try.func20, Try.ntmps20
  go_wp2_with (first | ((with_reducible refine gate_dst (N := 3) rfl ?_); refine box_event ?hg (N := 3) ?hd (cs := #[.slice A1_0 l1_0.length c1_0, .int .i64 a1_1]) (t := 27) ?hr ?_; (case hd => rfl); (case hg => rfl); (case hr => first | (go_simp; done) | (go_simp; rfl)); intro gb352 hg w15 hbox hb; have n0_ := Aside0.mk (below_step (by repeat (first | (with_reducible first | exact HB.out | apply below_alloc | apply pw_below_drewN | apply below_drew1) | exact HB.out | exact Below.refl _ _)) hb); have n1_ := Aside0.mk (hbox); have n2_ := Aside0.mk ((by rw [hg]; exact (below_size (by repeat (first | (with_reducible first | exact HB.out | apply below_alloc | apply pw_below_drewN | apply below_drew1) | exact HB.out | exact Below.refl _ _))) : w.heap.size ≤ gb352)); have n3_ := Aside0.mk ((by rw [hg]; exact (below_size (by repeat (first | (with_reducible first | exact HB.out | apply below_alloc | apply pw_below_drewN | apply below_drew1) | exact HB.out | exact Below.refl _ _))) : w.heap.size ≤ gb352)); try clear HB; have HB := n0_; have BK352 := n1_; have GW352 := n2_; have GE352 := n3_; clear n0_ n1_ n2_ n3_; clear hb hbox hg; have hcz16_0 : w15.cell? ⟨gb352, 0, none⟩ = some (.slice A1_0 l1_0.length c1_0) := (blk_cell BK352.out 0).trans rfl; have hcz16_1 : w15.cell? ⟨gb352, 1, none⟩ = some (.int .i64 a1_1) := (blk_cell BK352.out 1).trans rfl; have hfz16_0 := blk_frozen BK352.out 0; have hfz16_1 := blk_frozen BK352.out 1) | ((with_reducible refine gate_callee (f := 21) rfl ?_); refine goesL_ (some 7) rfl rfl Try.func21 (by kernel_rfl) rfl #[.slice A0 l0.length c0, .agg #[.slice A1_0 l1_0.length c1_0, .int .i64 a1_1]] rfl (by (try simp only [List.map_toArray, List.map_cons, List.map_nil]); first | done | rfl | (simp only [List.length_drop, List.length_take]; rfl)) ?_; (with_reducible refine (impl_MoveValid.calls k _ _ l0 _ _ l1_0 a1_1 false _ ?side1 ?side2 ?side3 ?side4 A3.out).mono ?_); (case side1 => repeat (first | exact (Kd.C_below HR0.out HB.out) | (with_reducible refine Kd.C_alloc ?_ _) | (with_reducible refine Kd.C_drewN ?_ _) | (with_reducible refine Kd.C_drew ?_))); (case side2 => exact HC0.out); (case side3 => repeat (first | exact (Kd.C_below HR1_0.out HB.out) | (with_reducible refine Kd.C_alloc ?_ _) | (with_reducible refine Kd.C_drewN ?_ _) | (with_reducible refine Kd.C_drew ?_))); (case side4 => exact HC1_0.out); rintro e w17 ⟨rfl, hb⟩; refine ⟨_, rfl, ?_⟩; have n0_ := Aside0.mk (blk_below (g := gb352) (o := .cells #[.slice A1_0 l1_0.length c1_0, .int .i64 a1_1] 27 (0, 0)) (by (with_reducible repeat (first | refine blk_drewN ?_ _ | refine blk_drew ?_ | refine blk_alloc ?_ _)); exact BK352.out) hb); have n1_ := Aside0.mk (below_step (by repeat (first | (with_reducible first | exact HB.out | apply below_alloc | apply pw_below_drewN | apply below_drew1 | refine below_set ?_ GE352.out) | exact HB.out)) hb); clear BK352; try clear HB; have BK352 := n0_; have HB := n1_; clear n0_ n1_; (try clear hb); (try clear hb2); (try clear hk); (try clear hi)))
  go_ret
  exact ⟨by first | rfl | (simp [errW_none, errW_some] <;> rfl) | (simp [*, errW_none, errW_some] <;> rfl), by repeat (first | (with_reducible first | exact HB.out | apply below_alloc | apply pw_below_drewN | apply below_drew1 | refine below_set ?_ GE352.out) | exact HB.out)⟩

end Go.Proofs.Ytnbeeogmaamgdaa.PFnStay
