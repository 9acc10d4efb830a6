-- Written by a program of this session (wip/print2.py): the functions that the law reaches, plain, and the walks.
import Derived.Test.YtpaohkhmhdhibaaPFnPointx0
import Derived.Test.YtpaohkhmhdhibaaPFnPointx10
namespace Go.Proofs.Ytpaohkhmhdhibaa.PFnPoint
open Go.RowKit Go.Proofs.YtpaohkhmhdhibaaW.PrintWords Go.Proofs.YtpaohkhmhdhibaaW.PrintLast Go.Proofs.YtpaohkhmhdhibaaW.PrintMore
attribute [local go_sem] max2_int min2_int max_two min_two max_three min_three max_four min_four   -- for this text's walks alone
set_option linter.unusedVariables false
set_option linter.unusedSimpArgs false

/-! ### spec_ConicPoint: function 10 -/
def spec_ConicPoint.f (k : Nat) (l0 : List Int) (l1 : List Int) : Option (Bool) := if (l0.length : Int) = 3 then ((spec_ZeroIs.f k l0 l1).bind fun t414 => (if t414 = true then ((spec_l6kPlain.f k l1).bind fun t415 => (if t415 = true then ((spec_ZeroHeight.f k l0 l1).bind fun t416 => (some (decide (t416 ≤ 1000)))) else (some false))) else (some false))) else (some false)
theorem spec_ConicPoint.mono : ∀ a0 a1 k, LeO (spec_ConicPoint.f k a0 a1) (spec_ConicPoint.f (k + 1) a0 a1) := by
  intro a0 a1 k
  unfold spec_ConicPoint.f
  repeat' first
      | (with_reducible exact spec_ZeroHeight.mono _ _ _)
      | (with_reducible exact spec_ZeroIs.mono _ _ _)
      | (with_reducible exact spec_l6kPlain.mono _ _)
      | (with_reducible exact LeO.refl _)
      | (with_reducible exact LeO.none _)
      | (with_reducible refine LeO.ite ?_ ?_)
      | (with_reducible refine LeO.bind ?_ (fun _ => ?_))
      | exact spec_ZeroHeight.mono _ _ _
      | exact spec_ZeroIs.mono _ _ _
      | exact spec_l6kPlain.mono _ _
      | exact LeO.none _
      | refine LeO.ite ?_ ?_
      | refine LeO.bind ?_ (fun _ => ?_)
set_option maxHeartbeats 8000000 in
set_option maxRecDepth 100000 in
theorem spec_ConicPoint.calls (k : Nat) (A0 : Option Addr) (c0 : Nat) (l0 : List Int) (A1 : Option Addr) (c1 : Nat) (l1 : List Int) (r : Bool) (w : World) (hr0 : Kd.C (Kd.int .i64) w A0 l0.length l0) (hc0 : l0.length ≤ c0) (hr1 : Kd.C (Kd.int .i64) w A1 l1.length l1) (hc1 : l1.length ≤ c1) (h : spec_ConicPoint.f k l0 l1 = some r) :
    Calls Try.prog 10 #[.slice A0 l0.length c0, .slice A1 l1.length c1] w fun e w' => e = .returned (.bool r) ∧ Below w.heap.size w w' := by
  have HR0 := Aside0.mk hr0; have HC0 := Aside0.mk hc0; clear hr0 hc0; have HR1 := Aside0.mk hr1; have HC1 := Aside0.mk hc1; clear hr1 hc1; have HB := Aside0.mk (Below.refl w.heap.size w); unfold spec_ConicPoint.f at h; have H := h; clear h
  by_cases c3 : (l0.length : Int) = 3
  · rw [if_pos c3] at H
    have c3b0 : ((l0.length : Int) == 3) = true := beq_iff_eq.mpr c3; have c3b1 : ((l0.length : Int) != 3) = false := bne_eq_false_iff_eq.mpr c3; clear c3; obtain ⟨t414, A4, H⟩ := bnd H
    by_cases c5 : t414 = true
    · subst c5
      replace H := ifT H; obtain ⟨t415, A6, H⟩ := bnd H
      by_cases c7 : t415 = true
      · subst c7
        replace H := ifT H; obtain ⟨t416, A8, H⟩ := bnd H; obtain rfl := Option.some.inj H; go_enter Try.func10, Try.ntmps10
        go_wp2_with (first | (go_at_call 34; (with_reducible refine (spec_ZeroIs.calls k _ _ l0 _ _ l1 true _ ?side1 ?side2 ?side3 ?side4 A4.out).mono ?_); (case side1 => exact U HR0.out); (case side2 => exact HC0.out); (case side3 => exact U HR1.out); (case side4 => exact HC1.out); rintro e w' ⟨rfl, ⟨nd, rfl⟩⟩) | (go_at_call 35; (with_reducible refine (spec_l6kPlain.calls k _ _ l1 true _ ?side1 ?side2 A6.out).mono ?_); (case side1 => exact U HR1.out); (case side2 => exact HC1.out); rintro e w9 ⟨rfl, hb⟩; replace HB := BS hb; (try clear hb)) | (go_at_call 36; (with_reducible refine (spec_ZeroHeight.calls k _ _ l0 _ _ l1 t416 _ ?side1 ?side2 ?side3 ?side4 A8.out).mono ?_); (case side1 => exact U (Kd.C_below HR0.out HB.out)); (case side2 => exact HC0.out); (case side3 => exact U (Kd.C_below HR1.out HB.out)); (case side4 => exact HC1.out); rintro e w10 ⟨rfl, hb⟩; replace HB := BS hb; (try clear hb)))
        go_ret
        exact ⟨eR, BU⟩
      replace c7 := Bool.eq_false_iff.mpr c7; subst c7; replace H := ifF H; obtain rfl := Option.some.inj H; go_enter Try.func10, Try.ntmps10
      go_wp2_with (first | (go_at_call 34; (with_reducible refine (spec_ZeroIs.calls k _ _ l0 _ _ l1 true _ ?side1 ?side2 ?side3 ?side4 A4.out).mono ?_); (case side1 => exact U HR0.out); (case side2 => exact HC0.out); (case side3 => exact U HR1.out); (case side4 => exact HC1.out); rintro e w' ⟨rfl, ⟨nd, rfl⟩⟩) | (go_at_call 35; (with_reducible refine (spec_l6kPlain.calls k _ _ l1 false _ ?side1 ?side2 A6.out).mono ?_); (case side1 => exact U HR1.out); (case side2 => exact HC1.out); rintro e w11 ⟨rfl, hb⟩; replace HB := BS hb; (try clear hb)))
      go_ret
      exact ⟨eR, BU⟩
    replace c5 := Bool.eq_false_iff.mpr c5; subst c5; replace H := ifF H; obtain rfl := Option.some.inj H; go_enter Try.func10, Try.ntmps10
    go_wp2_with (first | (go_at_call 34; (with_reducible refine (spec_ZeroIs.calls k _ _ l0 _ _ l1 false _ ?side1 ?side2 ?side3 ?side4 A4.out).mono ?_); (case side1 => exact U HR0.out); (case side2 => exact HC0.out); (case side3 => exact U HR1.out); (case side4 => exact HC1.out); rintro e w' ⟨rfl, ⟨nd, rfl⟩⟩))
    go_ret
    exact ⟨eR, BU⟩
  rw [if_neg c3] at H; have c3b0 : ((l0.length : Int) == 3) = false := beq_eq_false_iff_ne.mpr c3; have c3b1 : ((l0.length : Int) != 3) = true := bne_iff_ne.mpr c3; obtain rfl := Option.some.inj H; go_enter Try.func10, Try.ntmps10
  go_wp2
  go_ret
  exact ⟨eR, BU⟩

/-! ### impl_axes: function 37 -/
def impl_axes.l0 : Nat → List Int → Int → Option (Int × Int × Int)
  | 0, _, _ => none
  | k + 1, x0, x5 => if 0 ≤ x5 then (if x5 < (x0.length : Int) then (if (rd x0 x5) = 0 then (impl_axes.l0 k x0 (wrap64 (x5 + 1))) else (if x5 = 0 then (some (0, 1, 2)) else (if x5 = 1 then (some (1, 0, 2)) else (some (2, 0, 1))))) else (none)) else (none)
def impl_axes.f (k : Nat) (l0 : List Int) : Option (Int × Int × Int) := impl_axes.l0 k l0 0
theorem impl_axes.mono_l : ∀ k, (∀ y0 y1, LeO (impl_axes.l0 k y0 y1) (impl_axes.l0 (k + 1) y0 y1))
  | 0 => fun _ _ r h => by simp [impl_axes.l0] at h
  | k + 1 => by
    have ih0 := impl_axes.mono_l k
    · intro y0 y1
      unfold impl_axes.l0
      repeat' first
      | (with_reducible exact ih0 _ _)
      | (with_reducible exact LeO.refl _)
      | (with_reducible exact LeO.none _)
      | (with_reducible refine LeO.ite ?_ ?_)
      | (with_reducible refine LeO.bind ?_ (fun _ => ?_))
      | exact ih0 _ _
      | exact LeO.none _
      | refine LeO.ite ?_ ?_
      | refine LeO.bind ?_ (fun _ => ?_)
theorem impl_axes.mono : ∀ a0 k, LeO (impl_axes.f k a0) (impl_axes.f (k + 1) a0) := by
  intro a0 k
  have ih0 := impl_axes.mono_l k
  unfold impl_axes.f
  repeat' first
      | (with_reducible exact ih0 _ _)
      | (with_reducible exact LeO.refl _)
      | (with_reducible exact LeO.none _)
      | (with_reducible refine LeO.ite ?_ ?_)
      | (with_reducible refine LeO.bind ?_ (fun _ => ?_))
      | exact ih0 _ _
      | exact LeO.none _
      | refine LeO.ite ?_ ?_
      | refine LeO.bind ?_ (fun _ => ?_)
set_option maxHeartbeats 8000000 in
set_option maxRecDepth 100000 in
theorem impl_axes.calls (k : Nat) (A0 : Option Addr) (c0 : Nat) (l0 : List Int) (r1 : Int) (r2 : Int) (r3 : Int) (w : World) (hr0 : Kd.C (Kd.int .i64) w A0 l0.length l0) (hc0 : l0.length ≤ c0) (h : impl_axes.f k l0 = some (r1, r2, r3)) :
    Calls Try.prog 37 #[.slice A0 l0.length c0] w fun e w' => e = .returned (.tuple #[.int .i64 r1, .int .i64 r2, .int .i64 r3]) ∧ Drawn0 w w' := by
  have HR0 := Aside0.mk hr0; have HC0 := Aside0.mk hc0; clear hr0 hc0; unfold impl_axes.f at h; have H := h; clear h; have H' := Aside0.mk H; clear H; go_enter Try.func37, Try.ntmps37
  go_wp2
  go_loopg [5] k (fun kq v5 w' => ∃ (x5_1 : Int), v5 = .int .i64 x5_1 ∧ Aside0 (impl_axes.l0 kq l0 x5_1 = some (r1, r2, r3)) ∧ Aside0 (kq ≤ k) ∧ Drawn0 w w')
  case atStart => exact ⟨(0), sR, H', ⟨Nat.le_refl _⟩, by repeat (first | exact Drawn0.refl _ | apply Drawn0.step)⟩
  case round =>
    clear H'; obtain ⟨x5_1, rfl, HA, HK1, ⟨m1, rfl⟩⟩ := hrel; cases gk with
    | zero => exact absurd HA.out (by simp [impl_axes.l0])
    | succ k1 =>
      have H := HA.out; clear HA; simp only [impl_axes.l0] at H; obtain ⟨c2, H⟩ := ifN H; have c2b0 : decide (0 ≤ x5_1) = true := decide_eq_true c2; clear c2; obtain ⟨c3, H⟩ := ifN H; have c3b0 : decide (x5_1 < (l0.length : Int)) = true := decide_eq_true c3; clear c3
      by_cases c4 : (rd l0 x5_1) = 0
      · rw [if_pos c4] at H
        have c4b0 : ((rd l0 x5_1) == 0) = true := beq_iff_eq.mpr c4; have c4b1 : ((rd l0 x5_1) != 0) = false := bne_eq_false_iff_eq.mpr c4; clear c4; have H' := Aside0.mk H; clear H; have p417 : 0 ≤ (x5_1 : Int) := oD; have q417 : x5_1 < (l0.length : Int) := oD; obtain ⟨ad417, e417, hx417_0⟩ := Kd.at_int HR0.out x5_1 p417 q417; cases e417; replace p417 := eq_true p417; replace q417 := eq_true q417
        go_wp2
        go_roundg k1
        case measure => have := HK1.out; omega
        case rel => exact ⟨(wrap64 (x5_1 + 1)), sR, H', ⟨by have := HK1.out; omega⟩, by repeat (first | exact Drawn0.refl _ | apply Drawn0.step)⟩
      rw [if_neg c4] at H; have c4b0 : ((rd l0 x5_1) == 0) = false := beq_eq_false_iff_ne.mpr c4; have c4b1 : ((rd l0 x5_1) != 0) = true := bne_iff_ne.mpr c4
      by_cases c5 : x5_1 = 0
      · rw [if_pos c5] at H
        have c5b0 : (x5_1 == 0) = true := beq_iff_eq.mpr c5; have c5b1 : (x5_1 != 0) = false := bne_eq_false_iff_eq.mpr c5; clear c5; simp only [Option.some.injEq, Prod.mk.injEq] at H; obtain ⟨rfl, rfl, rfl⟩ := H; have p417 : 0 ≤ (x5_1 : Int) := oD; have q417 : x5_1 < (l0.length : Int) := oD; obtain ⟨ad417, e417, hx417_0⟩ := Kd.at_int HR0.out x5_1 p417 q417; cases e417; replace p417 := eq_true p417; replace q417 := eq_true q417
        go_wp2
        go_ret3
        exact ⟨by first | rfl | (simp; done) | (simp [*]; done), by repeat (first | exact Drawn0.refl _ | apply Drawn0.step)⟩
      rw [if_neg c5] at H; have c5b0 : (x5_1 == 0) = false := beq_eq_false_iff_ne.mpr c5; have c5b1 : (x5_1 != 0) = true := bne_iff_ne.mpr c5
      by_cases c6 : x5_1 = 1
      · rw [if_pos c6] at H
        have c6b0 : (x5_1 == 1) = true := beq_iff_eq.mpr c6; have c6b1 : (x5_1 != 1) = false := bne_eq_false_iff_eq.mpr c6; clear c6; simp only [Option.some.injEq, Prod.mk.injEq] at H; obtain ⟨rfl, rfl, rfl⟩ := H; have p417 : 0 ≤ (x5_1 : Int) := oD; have q417 : x5_1 < (l0.length : Int) := oD; obtain ⟨ad417, e417, hx417_0⟩ := Kd.at_int HR0.out x5_1 p417 q417; cases e417; replace p417 := eq_true p417; replace q417 := eq_true q417
        go_wp2
        go_ret3
        exact ⟨by first | rfl | (simp; done) | (simp [*]; done), by repeat (first | exact Drawn0.refl _ | apply Drawn0.step)⟩
      rw [if_neg c6] at H; have c6b0 : (x5_1 == 1) = false := beq_eq_false_iff_ne.mpr c6; have c6b1 : (x5_1 != 1) = true := bne_iff_ne.mpr c6; simp only [Option.some.injEq, Prod.mk.injEq] at H; obtain ⟨rfl, rfl, rfl⟩ := H; have p417 : 0 ≤ (x5_1 : Int) := oD; have q417 : x5_1 < (l0.length : Int) := oD; obtain ⟨ad417, e417, hx417_0⟩ := Kd.at_int HR0.out x5_1 p417 q417; cases e417; replace p417 := eq_true p417; replace q417 := eq_true q417
      go_wp2
      go_ret3
      exact ⟨by first | rfl | (simp; done) | (simp [*]; done), by repeat (first | exact Drawn0.refl _ | apply Drawn0.step)⟩

/-! ### impl_collinear: function 38 -/
def impl_collinear.f (l0 : List Int) (l1 : List Int) : Option (Bool) := if 0 < (l0.length : Int) then (if 1 < (l1.length : Int) then (if 1 < (l0.length : Int) then (if 0 < (l1.length : Int) then (if (wrap64 ((rd l0 0) * (rd l1 1))) = (wrap64 ((rd l0 1) * (rd l1 0))) then (if 2 < (l1.length : Int) then (if 2 < (l0.length : Int) then (if (wrap64 ((rd l0 0) * (rd l1 2))) = (wrap64 ((rd l0 2) * (rd l1 0))) then (some ((wrap64 ((rd l0 1) * (rd l1 2))) == (wrap64 ((rd l0 2) * (rd l1 1))))) else (some false)) else (none)) else (none)) else (some false)) else (none)) else (none)) else (none)) else (none)
set_option maxHeartbeats 8000000 in
set_option maxRecDepth 100000 in
theorem impl_collinear.calls (A0 : Option Addr) (c0 : Nat) (l0 : List Int) (A1 : Option Addr) (c1 : Nat) (l1 : List Int) (r : Bool) (w : World) (hr0 : Kd.C (Kd.int .i64) w A0 l0.length l0) (hc0 : l0.length ≤ c0) (hr1 : Kd.C (Kd.int .i64) w A1 l1.length l1) (hc1 : l1.length ≤ c1) (h : impl_collinear.f l0 l1 = some r) :
    Calls Try.prog 38 #[.slice A0 l0.length c0, .slice A1 l1.length c1] w fun e w' => e = .returned (.bool r) ∧ Drawn0 w w' := by
  have HR0 := Aside0.mk hr0; have HC0 := Aside0.mk hc0; clear hr0 hc0; have HR1 := Aside0.mk hr1; have HC1 := Aside0.mk hc1; clear hr1 hc1; unfold impl_collinear.f at h; have H := h; clear h; obtain ⟨c3, H⟩ := ifN H; have c3b0 : decide (0 < (l0.length : Int)) = true := decide_eq_true c3; have c3b1 : decide (0 < l0.length) = true := decide_eq_true (by omega); clear c3; obtain ⟨c4, H⟩ := ifN H; have c4b0 : decide (1 < (l1.length : Int)) = true := decide_eq_true c4; have c4b1 : decide (1 < l1.length) = true := decide_eq_true (by omega); clear c4; obtain ⟨c5, H⟩ := ifN H; have c5b0 : decide (1 < (l0.length : Int)) = true := decide_eq_true c5; have c5b1 : decide (1 < l0.length) = true := decide_eq_true (by omega); clear c5; obtain ⟨c6, H⟩ := ifN H; have c6b0 : decide (0 < (l1.length : Int)) = true := decide_eq_true c6; have c6b1 : decide (0 < l1.length) = true := decide_eq_true (by omega); clear c6
  by_cases c7 : (wrap64 ((rd l0 0) * (rd l1 1))) = (wrap64 ((rd l0 1) * (rd l1 0)))
  · rw [if_pos c7] at H
    have c7b0 : ((wrap64 ((rd l0 0) * (rd l1 1))) == (wrap64 ((rd l0 1) * (rd l1 0)))) = true := beq_iff_eq.mpr c7; have c7b1 : ((wrap64 ((rd l0 0) * (rd l1 1))) != (wrap64 ((rd l0 1) * (rd l1 0)))) = false := bne_eq_false_iff_eq.mpr c7; clear c7; obtain ⟨c8, H⟩ := ifN H; have c8b0 : decide (2 < (l1.length : Int)) = true := decide_eq_true c8; have c8b1 : decide (2 < l1.length) = true := decide_eq_true (by omega); clear c8; obtain ⟨c9, H⟩ := ifN H; have c9b0 : decide (2 < (l0.length : Int)) = true := decide_eq_true c9; have c9b1 : decide (2 < l0.length) = true := decide_eq_true (by omega); clear c9
    by_cases c10 : (wrap64 ((rd l0 0) * (rd l1 2))) = (wrap64 ((rd l0 2) * (rd l1 0)))
    · rw [if_pos c10] at H
      have c10b0 : ((wrap64 ((rd l0 0) * (rd l1 2))) == (wrap64 ((rd l0 2) * (rd l1 0)))) = true := beq_iff_eq.mpr c10; have c10b1 : ((wrap64 ((rd l0 0) * (rd l1 2))) != (wrap64 ((rd l0 2) * (rd l1 0)))) = false := bne_eq_false_iff_eq.mpr c10; clear c10; obtain rfl := Option.some.inj H; have p418 : 0 ≤ (0 : Int) := (by omega); have q418 : 0 < (l0.length : Int) := oD; obtain ⟨ad418, e418, hx418_0⟩ := Kd.at_int HR0.out 0 p418 q418; cases e418; have qi418 : (0 < l0.length) = True := eq_true (by omega)
      (try rw [show ((0 : Int)).toNat = 0 from rfl] at hx418_0)
      (try rw [Addr.add_zero'] at hx418_0)
      replace p418 := eq_true p418; replace q418 := eq_true q418; have p419 : 0 ≤ (1 : Int) := (by omega); have q419 : 1 < (l1.length : Int) := oD; obtain ⟨ad419, e419, hx419_0⟩ := Kd.at_int HR1.out 1 p419 q419; cases e419
      (try simp only [show (1 : Int).toNat = 1 from rfl, Nat.reduceMul, Nat.reduceEqDiff, Go.Addr.add, ↓reduceIte] at hx419_0)
      have qi419 : (1 < l1.length) = True := eq_true (by omega)
      (try rw [show ((1 : Int)).toNat = 1 from rfl] at hx419_0)
      replace p419 := eq_true p419; replace q419 := eq_true q419; have p420 : 0 ≤ (1 : Int) := (by omega); have q420 : 1 < (l0.length : Int) := oD; obtain ⟨ad420, e420, hx420_0⟩ := Kd.at_int HR0.out 1 p420 q420; obtain rfl : ad418 = ad420 := (by injection e420)
      (try simp only [show (1 : Int).toNat = 1 from rfl, Nat.reduceMul, Nat.reduceEqDiff, Go.Addr.add, ↓reduceIte] at hx420_0)
      have qi420 : (1 < l0.length) = True := eq_true (by omega)
      (try rw [show ((1 : Int)).toNat = 1 from rfl] at hx420_0)
      replace p420 := eq_true p420; replace q420 := eq_true q420; have p421 : 0 ≤ (0 : Int) := (by omega); have q421 : 0 < (l1.length : Int) := oD; obtain ⟨ad421, e421, hx421_0⟩ := Kd.at_int HR1.out 0 p421 q421; obtain rfl : ad419 = ad421 := (by injection e421); have qi421 : (0 < l1.length) = True := eq_true (by omega)
      (try rw [show ((0 : Int)).toNat = 0 from rfl] at hx421_0)
      (try rw [Addr.add_zero'] at hx421_0)
      replace p421 := eq_true p421; replace q421 := eq_true q421; have p422 : 0 ≤ (0 : Int) := (by omega); have q422 : 0 < (l0.length : Int) := oD; obtain ⟨ad422, e422, hx422_0⟩ := Kd.at_int HR0.out 0 p422 q422; obtain rfl : ad418 = ad422 := (by injection e422); have qi422 : (0 < l0.length) = True := eq_true (by omega)
      (try rw [show ((0 : Int)).toNat = 0 from rfl] at hx422_0)
      (try rw [Addr.add_zero'] at hx422_0)
      replace p422 := eq_true p422; replace q422 := eq_true q422; have p423 : 0 ≤ (2 : Int) := (by omega); have q423 : 2 < (l1.length : Int) := oD; obtain ⟨ad423, e423, hx423_0⟩ := Kd.at_int HR1.out 2 p423 q423; obtain rfl : ad419 = ad423 := (by injection e423)
      (try simp only [show (2 : Int).toNat = 2 from rfl, Nat.reduceMul, Nat.reduceEqDiff, Go.Addr.add, ↓reduceIte] at hx423_0)
      have qi423 : (2 < l1.length) = True := eq_true (by omega)
      (try rw [show ((2 : Int)).toNat = 2 from rfl] at hx423_0)
      replace p423 := eq_true p423; replace q423 := eq_true q423; have p424 : 0 ≤ (2 : Int) := (by omega); have q424 : 2 < (l0.length : Int) := oD; obtain ⟨ad424, e424, hx424_0⟩ := Kd.at_int HR0.out 2 p424 q424; obtain rfl : ad418 = ad424 := (by injection e424)
      (try simp only [show (2 : Int).toNat = 2 from rfl, Nat.reduceMul, Nat.reduceEqDiff, Go.Addr.add, ↓reduceIte] at hx424_0)
      have qi424 : (2 < l0.length) = True := eq_true (by omega)
      (try rw [show ((2 : Int)).toNat = 2 from rfl] at hx424_0)
      replace p424 := eq_true p424; replace q424 := eq_true q424; have p425 : 0 ≤ (0 : Int) := (by omega); have q425 : 0 < (l1.length : Int) := oD; obtain ⟨ad425, e425, hx425_0⟩ := Kd.at_int HR1.out 0 p425 q425; obtain rfl : ad419 = ad425 := (by injection e425); have qi425 : (0 < l1.length) = True := eq_true (by omega)
      (try rw [show ((0 : Int)).toNat = 0 from rfl] at hx425_0)
      (try rw [Addr.add_zero'] at hx425_0)
      replace p425 := eq_true p425; replace q425 := eq_true q425; have p426 : 0 ≤ (1 : Int) := (by omega); have q426 : 1 < (l0.length : Int) := oD; obtain ⟨ad426, e426, hx426_0⟩ := Kd.at_int HR0.out 1 p426 q426; obtain rfl : ad418 = ad426 := (by injection e426)
      (try simp only [show (1 : Int).toNat = 1 from rfl, Nat.reduceMul, Nat.reduceEqDiff, Go.Addr.add, ↓reduceIte] at hx426_0)
      have qi426 : (1 < l0.length) = True := eq_true (by omega)
      (try rw [show ((1 : Int)).toNat = 1 from rfl] at hx426_0)
      replace p426 := eq_true p426; replace q426 := eq_true q426; have p427 : 0 ≤ (2 : Int) := (by omega); have q427 : 2 < (l1.length : Int) := oD; obtain ⟨ad427, e427, hx427_0⟩ := Kd.at_int HR1.out 2 p427 q427; obtain rfl : ad419 = ad427 := (by injection e427)
      (try simp only [show (2 : Int).toNat = 2 from rfl, Nat.reduceMul, Nat.reduceEqDiff, Go.Addr.add, ↓reduceIte] at hx427_0)
      have qi427 : (2 < l1.length) = True := eq_true (by omega)
      (try rw [show ((2 : Int)).toNat = 2 from rfl] at hx427_0)
      replace p427 := eq_true p427; replace q427 := eq_true q427; have p428 : 0 ≤ (2 : Int) := (by omega); have q428 : 2 < (l0.length : Int) := oD; obtain ⟨ad428, e428, hx428_0⟩ := Kd.at_int HR0.out 2 p428 q428; obtain rfl : ad418 = ad428 := (by injection e428)
      (try simp only [show (2 : Int).toNat = 2 from rfl, Nat.reduceMul, Nat.reduceEqDiff, Go.Addr.add, ↓reduceIte] at hx428_0)
      have qi428 : (2 < l0.length) = True := eq_true (by omega)
      (try rw [show ((2 : Int)).toNat = 2 from rfl] at hx428_0)
      replace p428 := eq_true p428; replace q428 := eq_true q428; have p429 : 0 ≤ (1 : Int) := (by omega); have q429 : 1 < (l1.length : Int) := oD; obtain ⟨ad429, e429, hx429_0⟩ := Kd.at_int HR1.out 1 p429 q429; obtain rfl : ad419 = ad429 := (by injection e429)
      (try simp only [show (1 : Int).toNat = 1 from rfl, Nat.reduceMul, Nat.reduceEqDiff, Go.Addr.add, ↓reduceIte] at hx429_0)
      have qi429 : (1 < l1.length) = True := eq_true (by omega)
      (try rw [show ((1 : Int)).toNat = 1 from rfl] at hx429_0)
      replace p429 := eq_true p429; replace q429 := eq_true q429; go_enter Try.func38, Try.ntmps38
      go_wp2
      repeat (go_quiet (fail); try go_wp2)
      go_ret
      exact ⟨by first | rfl | (simp; done) | (simp [*]; done), by repeat (first | exact Drawn0.refl _ | apply Drawn0.step)⟩
    rw [if_neg c10] at H; have c10b0 : ((wrap64 ((rd l0 0) * (rd l1 2))) == (wrap64 ((rd l0 2) * (rd l1 0)))) = false := beq_eq_false_iff_ne.mpr c10; have c10b1 : ((wrap64 ((rd l0 0) * (rd l1 2))) != (wrap64 ((rd l0 2) * (rd l1 0)))) = true := bne_iff_ne.mpr c10; obtain rfl := Option.some.inj H; have p418 : 0 ≤ (0 : Int) := (by omega); have q418 : 0 < (l0.length : Int) := oD; obtain ⟨ad418, e418, hx418_0⟩ := Kd.at_int HR0.out 0 p418 q418; cases e418; have qi418 : (0 < l0.length) = True := eq_true (by omega)
    (try rw [show ((0 : Int)).toNat = 0 from rfl] at hx418_0)
    (try rw [Addr.add_zero'] at hx418_0)
    replace p418 := eq_true p418; replace q418 := eq_true q418; have p419 : 0 ≤ (1 : Int) := (by omega); have q419 : 1 < (l1.length : Int) := oD; obtain ⟨ad419, e419, hx419_0⟩ := Kd.at_int HR1.out 1 p419 q419; cases e419
    (try simp only [show (1 : Int).toNat = 1 from rfl, Nat.reduceMul, Nat.reduceEqDiff, Go.Addr.add, ↓reduceIte] at hx419_0)
    have qi419 : (1 < l1.length) = True := eq_true (by omega)
    (try rw [show ((1 : Int)).toNat = 1 from rfl] at hx419_0)
    replace p419 := eq_true p419; replace q419 := eq_true q419; have p420 : 0 ≤ (1 : Int) := (by omega); have q420 : 1 < (l0.length : Int) := oD; obtain ⟨ad420, e420, hx420_0⟩ := Kd.at_int HR0.out 1 p420 q420; obtain rfl : ad418 = ad420 := (by injection e420)
    (try simp only [show (1 : Int).toNat = 1 from rfl, Nat.reduceMul, Nat.reduceEqDiff, Go.Addr.add, ↓reduceIte] at hx420_0)
    have qi420 : (1 < l0.length) = True := eq_true (by omega)
    (try rw [show ((1 : Int)).toNat = 1 from rfl] at hx420_0)
    replace p420 := eq_true p420; replace q420 := eq_true q420; have p421 : 0 ≤ (0 : Int) := (by omega); have q421 : 0 < (l1.length : Int) := oD; obtain ⟨ad421, e421, hx421_0⟩ := Kd.at_int HR1.out 0 p421 q421; obtain rfl : ad419 = ad421 := (by injection e421); have qi421 : (0 < l1.length) = True := eq_true (by omega)
    (try rw [show ((0 : Int)).toNat = 0 from rfl] at hx421_0)
    (try rw [Addr.add_zero'] at hx421_0)
    replace p421 := eq_true p421; replace q421 := eq_true q421; have p422 : 0 ≤ (0 : Int) := (by omega); have q422 : 0 < (l0.length : Int) := oD; obtain ⟨ad422, e422, hx422_0⟩ := Kd.at_int HR0.out 0 p422 q422; obtain rfl : ad418 = ad422 := (by injection e422); have qi422 : (0 < l0.length) = True := eq_true (by omega)
    (try rw [show ((0 : Int)).toNat = 0 from rfl] at hx422_0)
    (try rw [Addr.add_zero'] at hx422_0)
    replace p422 := eq_true p422; replace q422 := eq_true q422; have p423 : 0 ≤ (2 : Int) := (by omega); have q423 : 2 < (l1.length : Int) := oD; obtain ⟨ad423, e423, hx423_0⟩ := Kd.at_int HR1.out 2 p423 q423; obtain rfl : ad419 = ad423 := (by injection e423)
    (try simp only [show (2 : Int).toNat = 2 from rfl, Nat.reduceMul, Nat.reduceEqDiff, Go.Addr.add, ↓reduceIte] at hx423_0)
    have qi423 : (2 < l1.length) = True := eq_true (by omega)
    (try rw [show ((2 : Int)).toNat = 2 from rfl] at hx423_0)
    replace p423 := eq_true p423; replace q423 := eq_true q423; have p424 : 0 ≤ (2 : Int) := (by omega); have q424 : 2 < (l0.length : Int) := oD; obtain ⟨ad424, e424, hx424_0⟩ := Kd.at_int HR0.out 2 p424 q424; obtain rfl : ad418 = ad424 := (by injection e424)
    (try simp only [show (2 : Int).toNat = 2 from rfl, Nat.reduceMul, Nat.reduceEqDiff, Go.Addr.add, ↓reduceIte] at hx424_0)
    have qi424 : (2 < l0.length) = True := eq_true (by omega)
    (try rw [show ((2 : Int)).toNat = 2 from rfl] at hx424_0)
    replace p424 := eq_true p424; replace q424 := eq_true q424; have p425 : 0 ≤ (0 : Int) := (by omega); have q425 : 0 < (l1.length : Int) := oD; obtain ⟨ad425, e425, hx425_0⟩ := Kd.at_int HR1.out 0 p425 q425; obtain rfl : ad419 = ad425 := (by injection e425); have qi425 : (0 < l1.length) = True := eq_true (by omega)
    (try rw [show ((0 : Int)).toNat = 0 from rfl] at hx425_0)
    (try rw [Addr.add_zero'] at hx425_0)
    replace p425 := eq_true p425; replace q425 := eq_true q425; go_enter Try.func38, Try.ntmps38
    go_wp2
    repeat (go_quiet (fail); try go_wp2)
    go_ret
    exact ⟨by first | rfl | (simp; done) | (simp [*]; done), by repeat (first | exact Drawn0.refl _ | apply Drawn0.step)⟩
  rw [if_neg c7] at H; have c7b0 : ((wrap64 ((rd l0 0) * (rd l1 1))) == (wrap64 ((rd l0 1) * (rd l1 0)))) = false := beq_eq_false_iff_ne.mpr c7; have c7b1 : ((wrap64 ((rd l0 0) * (rd l1 1))) != (wrap64 ((rd l0 1) * (rd l1 0)))) = true := bne_iff_ne.mpr c7; obtain rfl := Option.some.inj H; have p418 : 0 ≤ (0 : Int) := (by omega); have q418 : 0 < (l0.length : Int) := oD; obtain ⟨ad418, e418, hx418_0⟩ := Kd.at_int HR0.out 0 p418 q418; cases e418; have qi418 : (0 < l0.length) = True := eq_true (by omega)
  (try rw [show ((0 : Int)).toNat = 0 from rfl] at hx418_0)
  (try rw [Addr.add_zero'] at hx418_0)
  replace p418 := eq_true p418; replace q418 := eq_true q418; have p419 : 0 ≤ (1 : Int) := (by omega); have q419 : 1 < (l1.length : Int) := oD; obtain ⟨ad419, e419, hx419_0⟩ := Kd.at_int HR1.out 1 p419 q419; cases e419
  (try simp only [show (1 : Int).toNat = 1 from rfl, Nat.reduceMul, Nat.reduceEqDiff, Go.Addr.add, ↓reduceIte] at hx419_0)
  have qi419 : (1 < l1.length) = True := eq_true (by omega)
  (try rw [show ((1 : Int)).toNat = 1 from rfl] at hx419_0)
  replace p419 := eq_true p419; replace q419 := eq_true q419; have p420 : 0 ≤ (1 : Int) := (by omega); have q420 : 1 < (l0.length : Int) := oD; obtain ⟨ad420, e420, hx420_0⟩ := Kd.at_int HR0.out 1 p420 q420; obtain rfl : ad418 = ad420 := (by injection e420)
  (try simp only [show (1 : Int).toNat = 1 from rfl, Nat.reduceMul, Nat.reduceEqDiff, Go.Addr.add, ↓reduceIte] at hx420_0)
  have qi420 : (1 < l0.length) = True := eq_true (by omega)
  (try rw [show ((1 : Int)).toNat = 1 from rfl] at hx420_0)
  replace p420 := eq_true p420; replace q420 := eq_true q420; have p421 : 0 ≤ (0 : Int) := (by omega); have q421 : 0 < (l1.length : Int) := oD; obtain ⟨ad421, e421, hx421_0⟩ := Kd.at_int HR1.out 0 p421 q421; obtain rfl : ad419 = ad421 := (by injection e421); have qi421 : (0 < l1.length) = True := eq_true (by omega)
  (try rw [show ((0 : Int)).toNat = 0 from rfl] at hx421_0)
  (try rw [Addr.add_zero'] at hx421_0)
  replace p421 := eq_true p421; replace q421 := eq_true q421; go_enter Try.func38, Try.ntmps38
  go_wp2
  repeat (go_quiet (fail); try go_wp2)
  go_ret
  exact ⟨by first | rfl | (simp; done) | (simp [*]; done), by repeat (first | exact Drawn0.refl _ | apply Drawn0.step)⟩

end Go.Proofs.Ytpaohkhmhdhibaa.PFnPoint
