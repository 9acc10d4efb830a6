-- Written by a program of this session (wip/print2.py): the functions that the law reaches, plain, and the walks.
import Derived.Test.YtnbeeogmaamgdaaPFnMirrorx0
import Derived.Test.YtnbeeogmaamgdaaPFnMirrorx9
namespace Go.Proofs.Ytnbeeogmaamgdaa.PFnMirror
open Go.RowKit Go.Proofs.YtnbeeogmaamgdaaW.PrintWords Go.Proofs.YtnbeeogmaamgdaaW.PrintLast Go.Proofs.YtnbeeogmaamgdaaW.PrintMore
attribute [local go_sem] max2_int min2_int max_two min_two max_three min_three max_four min_four   -- for this text's walks alone
set_option linter.unusedVariables false
set_option linter.unusedSimpArgs false

/-! ### spec_FormValid: function 85 -/
def spec_FormValid.l0 : Nat → List Int → Int → Option (Bool)
  | 0, _, _ => none
  | k + 1, x0, x3 => if x3 < (x0.length : Int) then (if 0 ≤ x3 then (if (rd x0 x3) = 0 then (some false) else ((spec_l6In.f (rd x0 x3) (-30) 30).bind fun t352 => (if t352 = true then (spec_FormValid.l0 k x0 (wrap64 (x3 + 1))) else (some false)))) else (none)) else ((spec_l6In.f (x0.length : Int) 1 4).bind fun t353 => (some t353))
def spec_FormValid.f (k : Nat) (l0 : List Int) : Option (Bool) := spec_FormValid.l0 k l0 0
theorem spec_FormValid.mono_l : ∀ k, (∀ y0 y1, LeO (spec_FormValid.l0 k y0 y1) (spec_FormValid.l0 (k + 1) y0 y1))
  | 0 => fun _ _ r h => by simp [spec_FormValid.l0] at h
  | k + 1 => by
    have ih0 := spec_FormValid.mono_l k
    · intro y0 y1
      unfold spec_FormValid.l0
      repeat' first
      | (with_reducible exact ih0 _ _)
      | (with_reducible exact LeO.refl _)
      | (with_reducible exact LeO.none _)
      | (with_reducible refine LeO.ite ?_ ?_)
      | (with_reducible refine LeO.bind ?_ (fun _ => ?_))
      | exact ih0 _ _
      | exact LeO.none _
      | refine LeO.ite ?_ ?_
      | refine LeO.bind ?_ (fun _ => ?_)
theorem spec_FormValid.mono : ∀ a0 k, LeO (spec_FormValid.f k a0) (spec_FormValid.f (k + 1) a0) := by
  intro a0 k
  have ih0 := spec_FormValid.mono_l k
  unfold spec_FormValid.f
  repeat' first
      | (with_reducible exact ih0 _ _)
      | (with_reducible exact LeO.refl _)
      | (with_reducible exact LeO.none _)
      | (with_reducible refine LeO.ite ?_ ?_)
      | (with_reducible refine LeO.bind ?_ (fun _ => ?_))
      | exact ih0 _ _
      | exact LeO.none _
      | refine LeO.ite ?_ ?_
      | refine LeO.bind ?_ (fun _ => ?_)
set_option maxHeartbeats 8000000 in
set_option maxRecDepth 100000 in
theorem spec_FormValid.calls (k : Nat) (A0 : Option Addr) (c0 : Nat) (l0 : List Int) (r : Bool) (w : World) (hr0 : Kd.C (Kd.int .i64) w A0 l0.length l0) (hc0 : l0.length ≤ c0) (h : spec_FormValid.f k l0 = some r) :
    Calls Try.prog 85 #[.slice A0 l0.length c0] w fun e w' => e = .returned (.bool r) ∧ Drawn0 w w' := by
  have HR0 := Aside0.mk hr0; have HC0 := Aside0.mk hc0; clear hr0 hc0; unfold spec_FormValid.f at h; have H := h; clear h; have H' := Aside0.mk H; clear H; go_enter Try.func85, Try.ntmps85
  go_wp2
  go_loopg [3] k (fun kq v3 w' => ∃ (x3_1 : Int), v3 = .int .i64 x3_1 ∧ Aside0 (spec_FormValid.l0 kq l0 x3_1 = some r) ∧ Aside0 (kq ≤ k) ∧ Drawn0 w w')
  case atStart => exact ⟨(0), sR, H', ⟨Nat.le_refl _⟩, by repeat (first | exact Drawn0.refl _ | apply Drawn0.step)⟩
  case round =>
    clear H'; obtain ⟨x3_1, rfl, HA, HK1, ⟨m1, rfl⟩⟩ := hrel; cases gk with
    | zero => exact absurd HA.out (by simp [spec_FormValid.l0])
    | succ k1 =>
      have H := HA.out; clear HA; simp only [spec_FormValid.l0] at H
      by_cases c2 : x3_1 < (l0.length : Int)
      · rw [if_pos c2] at H
        have c2b0 : decide (x3_1 < (l0.length : Int)) = true := decide_eq_true c2; clear c2; obtain ⟨c3, H⟩ := ifN H; have c3b0 : decide (0 ≤ x3_1) = true := decide_eq_true c3; clear c3
        by_cases c4 : (rd l0 x3_1) = 0
        · rw [if_pos c4] at H
          have c4b0 : ((rd l0 x3_1) == 0) = true := beq_iff_eq.mpr c4; have c4b1 : ((rd l0 x3_1) != 0) = false := bne_eq_false_iff_eq.mpr c4; clear c4; obtain rfl := Option.some.inj H; have p350 : 0 ≤ (x3_1 : Int) := oD; have q350 : x3_1 < (l0.length : Int) := oD; obtain ⟨ad350, e350, hx350_0⟩ := Kd.at_int HR0.out x3_1 p350 q350; cases e350; replace p350 := eq_true p350; replace q350 := eq_true q350
          go_wp2
          go_ret
          exact ⟨by first | rfl | (simp; done) | (simp [*]; done), by repeat (first | exact Drawn0.refl _ | apply Drawn0.step)⟩
        rw [if_neg c4] at H; have c4b0 : ((rd l0 x3_1) == 0) = false := beq_eq_false_iff_ne.mpr c4; have c4b1 : ((rd l0 x3_1) != 0) = true := bne_iff_ne.mpr c4; obtain ⟨t352, A5, H⟩ := bnd H
        by_cases c6 : t352 = true
        · subst c6
          replace H := ifT H; have H' := Aside0.mk H; clear H; have p350 : 0 ≤ (x3_1 : Int) := oD; have q350 : x3_1 < (l0.length : Int) := oD; obtain ⟨ad350, e350, hx350_0⟩ := Kd.at_int HR0.out x3_1 p350 q350; cases e350; replace p350 := eq_true p350; replace q350 := eq_true q350; have p351 : 0 ≤ (x3_1 : Int) := oD; have q351 : x3_1 < (l0.length : Int) := oD; obtain ⟨ad351, e351, hx351_0⟩ := Kd.at_int HR0.out x3_1 p351 q351; obtain rfl : ad350 = ad351 := (by injection e351); replace p351 := eq_true p351; replace q351 := eq_true q351
          go_wp2_with (first | (go_at_call 86; (with_reducible refine (spec_l6In.calls (rd l0 x3_1) (-30) 30 true _ A5.out).mono ?_); rintro e w' ⟨rfl, ⟨nd, rfl⟩⟩))
          go_roundg k1
          case measure => have := HK1.out; omega
          case rel => exact ⟨(wrap64 (x3_1 + 1)), sR, H', ⟨by have := HK1.out; omega⟩, by repeat (first | exact Drawn0.refl _ | apply Drawn0.step)⟩
        replace c6 := Bool.eq_false_iff.mpr c6; subst c6; replace H := ifF H; obtain rfl := Option.some.inj H; have p350 : 0 ≤ (x3_1 : Int) := oD; have q350 : x3_1 < (l0.length : Int) := oD; obtain ⟨ad350, e350, hx350_0⟩ := Kd.at_int HR0.out x3_1 p350 q350; cases e350; replace p350 := eq_true p350; replace q350 := eq_true q350; have p351 : 0 ≤ (x3_1 : Int) := oD; have q351 : x3_1 < (l0.length : Int) := oD; obtain ⟨ad351, e351, hx351_0⟩ := Kd.at_int HR0.out x3_1 p351 q351; obtain rfl : ad350 = ad351 := (by injection e351); replace p351 := eq_true p351; replace q351 := eq_true q351
        go_wp2_with (first | (go_at_call 86; (with_reducible refine (spec_l6In.calls (rd l0 x3_1) (-30) 30 false _ A5.out).mono ?_); rintro e w' ⟨rfl, ⟨nd, rfl⟩⟩))
        go_ret
        exact ⟨by first | rfl | (simp; done) | (simp [*]; done), by repeat (first | exact Drawn0.refl _ | apply Drawn0.step)⟩
      rw [if_neg c2] at H; have c2b0 : decide (x3_1 < (l0.length : Int)) = false := decide_eq_false c2; clear c2; obtain ⟨t353, A7, H⟩ := bnd H; obtain rfl := Option.some.inj H
      go_wp2_with (first | ((with_reducible refine gate_callee (f := 86) rfl ?_); refine goesK (some 25) Try.func86 #[.int .i64 (l0.length : Int), .int .i64 1, .int .i64 4] ?_; (with_reducible refine (spec_l6In.calls (l0.length : Int) 1 4 t353 _ A7.out).mono ?_); rintro e w' ⟨rfl, ⟨nd, rfl⟩⟩; refine ⟨_, rfl, ?_⟩))
      go_ret
      exact ⟨by first | rfl | (simp; done) | (simp [*]; done), by repeat (first | exact Drawn0.refl _ | apply Drawn0.step)⟩

/-! ### spec_l7Form: function 54 -/
def spec_l7Form.f (k : Nat) (l0 : List Int) : Option (Bool) := (spec_FormValid.f k l0).bind fun t354 => (if t354 = true then (some (decide ((l0.length : Int) ≤ 3))) else (some false))
theorem spec_l7Form.mono : ∀ a0 k, LeO (spec_l7Form.f k a0) (spec_l7Form.f (k + 1) a0) := by
  intro a0 k
  unfold spec_l7Form.f
  repeat' first
      | (with_reducible exact spec_FormValid.mono _ _)
      | (with_reducible exact LeO.refl _)
      | (with_reducible exact LeO.none _)
      | (with_reducible refine LeO.ite ?_ ?_)
      | (with_reducible refine LeO.bind ?_ (fun _ => ?_))
      | exact spec_FormValid.mono _ _
      | exact LeO.none _
      | refine LeO.ite ?_ ?_
      | refine LeO.bind ?_ (fun _ => ?_)
set_option maxHeartbeats 8000000 in
set_option maxRecDepth 100000 in
theorem spec_l7Form.calls (k : Nat) (A0 : Option Addr) (c0 : Nat) (l0 : List Int) (r : Bool) (w : World) (hr0 : Kd.C (Kd.int .i64) w A0 l0.length l0) (hc0 : l0.length ≤ c0) (h : spec_l7Form.f k l0 = some r) :
    Calls Try.prog 54 #[.slice A0 l0.length c0] w fun e w' => e = .returned (.bool r) ∧ Drawn0 w w' := by
  have HR0 := Aside0.mk hr0; have HC0 := Aside0.mk hc0; clear hr0 hc0; unfold spec_l7Form.f at h; have H := h; clear h; obtain ⟨t354, A2, H⟩ := bnd H
  by_cases c3 : t354 = true
  · subst c3
    replace H := ifT H; obtain rfl := Option.some.inj H; go_enter Try.func54, Try.ntmps54
    go_wp2_with (first | ((with_reducible refine gate_callee (f := 85) rfl ?_); refine goesK (some 4) Try.func85 #[.slice A0 l0.length c0] ?_; (with_reducible refine (spec_FormValid.calls k _ _ l0 true _ ?side1 ?side2 A2.out).mono ?_); (case side1 => exact U HR0.out); (case side2 => exact HC0.out); rintro e w' ⟨rfl, ⟨nd, rfl⟩⟩; refine ⟨_, rfl, ?_⟩))
    go_ret
    exact ⟨by first | rfl | (simp; done) | (simp [*]; done), by repeat (first | exact Drawn0.refl _ | apply Drawn0.step)⟩
  replace c3 := Bool.eq_false_iff.mpr c3; subst c3; replace H := ifF H; obtain rfl := Option.some.inj H; go_enter Try.func54, Try.ntmps54
  go_wp2_with (first | ((with_reducible refine gate_callee (f := 85) rfl ?_); refine goesK (some 4) Try.func85 #[.slice A0 l0.length c0] ?_; (with_reducible refine (spec_FormValid.calls k _ _ l0 false _ ?side1 ?side2 A2.out).mono ?_); (case side1 => exact U HR0.out); (case side2 => exact HC0.out); rintro e w' ⟨rfl, ⟨nd, rfl⟩⟩; refine ⟨_, rfl, ?_⟩))
  go_ret
  exact ⟨by first | rfl | (simp; done) | (simp [*]; done), by repeat (first | exact Drawn0.refl _ | apply Drawn0.step)⟩

/-! ### spec_l1Size: function 80 -/
def spec_l1Size.f (a0 : Int) : Option (Int) := some (mx a0 (wrap64 (-a0)))
set_option maxHeartbeats 8000000 in
set_option maxRecDepth 100000 in
theorem spec_l1Size.calls (a0 : Int) (r : Int) (w : World) (h : spec_l1Size.f a0 = some r) :
    Calls Try.prog 80 #[.int .i64 a0] w fun e w' => e = .returned (.int .i64 r) ∧ Below w.heap.size w w' := by
  have HB := Aside0.mk (Below.refl w.heap.size w); unfold spec_l1Size.f at h; have H := h; clear h; obtain ⟨ji2, hji2⟩ : ∃ j_ : Int, (mx a0 (wrap64 (-a0))) = j_ := ⟨_, rfl⟩
  replace H : (some ji2) = some r := by first | (rw [hji2] at H; exact H) | (simp only [hji2] at H ⊢; exact H)
  have hji2_ : (if a0 < (wrap64 (-a0)) then (wrap64 (-a0)) else a0) = ji2 := hji2; obtain rfl := Option.some.inj H; go_enter Try.func80, Try.ntmps80
  go_wp2
  go_ret
  exact ⟨by first | rfl | (simp [errW_none, errW_some] <;> rfl) | (simp only [← hji2]; first | rfl | (simp [errW_none, errW_some] <;> rfl)) | (simp [*, errW_none, errW_some] <;> rfl), BU⟩

/-! ### spec_l1Gcd: function 87 -/
def spec_l1Gcd.l0 : Nat → Int → Int → Option (Int)
  | 0, _, _ => none
  | k + 1, x0, x1 => if x1 = 0 then (some x0) else (spec_l1Gcd.l0 k x1 (Int.tmod x0 x1))
def spec_l1Gcd.f (k : Nat) (a0 : Int) (a1 : Int) : Option (Int) := (spec_l1Size.f a0).bind fun t355 => ((spec_l1Size.f a1).bind fun t356 => (spec_l1Gcd.l0 k t355 t356))
theorem spec_l1Gcd.mono_l : ∀ k, (∀ y0 y1, LeO (spec_l1Gcd.l0 k y0 y1) (spec_l1Gcd.l0 (k + 1) y0 y1))
  | 0 => fun _ _ r h => by simp [spec_l1Gcd.l0] at h
  | k + 1 => by
    have ih0 := spec_l1Gcd.mono_l k
    · intro y0 y1
      unfold spec_l1Gcd.l0
      repeat' first
      | (with_reducible exact ih0 _ _)
      | (with_reducible exact LeO.refl _)
      | (with_reducible exact LeO.none _)
      | (with_reducible refine LeO.ite ?_ ?_)
      | (with_reducible refine LeO.bind ?_ (fun _ => ?_))
      | exact ih0 _ _
      | exact LeO.none _
      | refine LeO.ite ?_ ?_
      | refine LeO.bind ?_ (fun _ => ?_)
theorem spec_l1Gcd.mono : ∀ a0 a1 k, LeO (spec_l1Gcd.f k a0 a1) (spec_l1Gcd.f (k + 1) a0 a1) := by
  intro a0 a1 k
  have ih0 := spec_l1Gcd.mono_l k
  unfold spec_l1Gcd.f
  repeat' first
      | (with_reducible exact ih0 _ _)
      | (with_reducible exact LeO.refl _)
      | (with_reducible exact LeO.none _)
      | (with_reducible refine LeO.ite ?_ ?_)
      | (with_reducible refine LeO.bind ?_ (fun _ => ?_))
      | exact ih0 _ _
      | exact LeO.none _
      | refine LeO.ite ?_ ?_
      | refine LeO.bind ?_ (fun _ => ?_)
set_option maxHeartbeats 8000000 in
set_option maxRecDepth 100000 in
theorem spec_l1Gcd.calls (k : Nat) (a0 : Int) (a1 : Int) (r : Int) (w : World) (h : spec_l1Gcd.f k a0 a1 = some r) :
    Calls Try.prog 87 #[.int .i64 a0, .int .i64 a1] w fun e w' => e = .returned (.int .i64 r) ∧ Below w.heap.size w w' := by
  have HB := Aside0.mk (Below.refl w.heap.size w); unfold spec_l1Gcd.f at h; have H := h; clear h; obtain ⟨t355, A3, H⟩ := bnd H; obtain ⟨t356, A4, H⟩ := bnd H; have H' := Aside0.mk H; clear H; go_enter Try.func87, Try.ntmps87
  go_wp2_with (first | ((with_reducible refine gate_callee (f := 80) rfl ?_); refine goesK (some 7) Try.func80 #[.int .i64 a0] ?_; (with_reducible refine (spec_l1Size.calls a0 t355 _ A3.out).mono ?_); rintro e w5 ⟨rfl, hb⟩; refine ⟨_, rfl, ?_⟩; replace HB := BS hb; (try clear hb)) | ((with_reducible refine gate_callee (f := 80) rfl ?_); refine goesK (some 9) Try.func80 #[.int .i64 a1] ?_; (with_reducible refine (spec_l1Size.calls a1 t356 _ A4.out).mono ?_); rintro e w6 ⟨rfl, hb⟩; refine ⟨_, rfl, ?_⟩; replace HB := BS hb; (try clear hb)))
  go_loopg [0, 1] k (fun kq v0 v1 w' => ∃ (x0_1 : Int) (x1_1 : Int), v0 = .int .i64 x0_1 ∧ v1 = .int .i64 x1_1 ∧ Aside0 (spec_l1Gcd.l0 kq x0_1 x1_1 = some r) ∧ Aside0 (kq ≤ k) ∧ Aside0 (Below w.heap.size w w'))
  case atStart => exact ⟨(t355), (t356), sR, sR, H', ⟨Nat.le_refl _⟩, ⟨BU⟩⟩
  case round =>
    clear H'; obtain ⟨x0_1, x1_1, rfl, rfl, HA, HK1, HB⟩ := hrel; cases gk with
    | zero => exact absurd HA.out (by simp [spec_l1Gcd.l0])
    | succ k1 =>
      have H := HA.out; clear HA; simp only [spec_l1Gcd.l0] at H
      by_cases c7 : x1_1 = 0
      · rw [if_pos c7] at H
        have c7b0 : (x1_1 == 0) = true := beq_iff_eq.mpr c7; have c7b1 : (x1_1 != 0) = false := bne_eq_false_iff_eq.mpr c7; clear c7; obtain rfl := Option.some.inj H
        go_wp2
        go_ret
        exact ⟨eR, BU⟩
      rw [if_neg c7] at H; have c7b0 : (x1_1 == 0) = false := beq_eq_false_iff_ne.mpr c7; have c7b1 : (x1_1 != 0) = true := bne_iff_ne.mpr c7; have H' := Aside0.mk H; clear H
      go_wp2
      go_roundg k1
      case measure => have := HK1.out; omega
      case rel => exact ⟨(x1_1), (Int.tmod x0_1 x1_1), sR, sR, H', ⟨by have := HK1.out; omega⟩, ⟨BU⟩⟩

/-! ### spec_l7Shape: function 82 -/
mutual
def spec_l7Shape.j0 : Nat → List Int → Bool → List (List Int) → Int → Option (Bool)
  | 0, _, _, _, _ => none
  | k + 1, x0, x24, x358000, x358001 => if x24 = true then (some false) else (spec_l7Shape.l0 k x0 x358001 0 x358000 x358001)
def spec_l7Shape.l0 : Nat → List Int → Int → Int → List (List Int) → Int → Option (Bool)
  | 0, _, _, _, _, _ => none
  | k + 1, x0, x5, x6, x358000, x358001 => if x6 < (x358000.length : Int) then (if 0 ≤ x6 then (if ((rd_L1 x358000 x6).length : Int) = (x0.length : Int) then (spec_l7Shape.l1 k x0 x5 x6 0 x358000 x358001) else (some false)) else (none)) else (some (x5 == 1))
def spec_l7Shape.l1 : Nat → List Int → Int → Int → Int → List (List Int) → Int → Option (Bool)
  | 0, _, _, _, _, _, _ => none
  | k + 1, x0, x5, x6, x7, x358000, x358001 => if x7 < (x0.length : Int) then (if 0 ≤ x6 then (if x6 < (x358000.length : Int) then (if 0 ≤ x7 then (if x7 < ((rd_L1 x358000 x6).length : Int) then ((spec_l6In.f (rd (rd_L1 x358000 x6) x7) (-1000000) 1000000).bind fun t363 => (if t363 = true then ((spec_l1Gcd.f k x5 (rd (rd_L1 x358000 x6) x7)).bind fun t366 => (spec_l7Shape.l1 k x0 t366 x6 (wrap64 (x7 + 1)) x358000 x358001)) else (some false))) else (none)) else (none)) else (none)) else (none)) else (spec_l7Shape.l0 k x0 x5 (wrap64 (x6 + 1)) x358000 x358001)
end
def spec_l7Shape.f (k : Nat) (l0 : List Int) (l1_0 : List (List Int)) (a1_1 : Int) : Option (Bool) := (spec_l7Form.f k l0).bind fun t358 => (if t358 = true then (if (l1_0.length : Int) = (l0.length : Int) then ((spec_l6In.f a1_1 1 10000).bind fun t359 => (spec_l7Shape.j0 k l0 (!t359) l1_0 a1_1)) else (spec_l7Shape.j0 k l0 true l1_0 a1_1)) else (spec_l7Shape.j0 k l0 true l1_0 a1_1))
theorem spec_l7Shape.mono_l : ∀ k, (∀ y0 y1 y2 y3, LeO (spec_l7Shape.j0 k y0 y1 y2 y3) (spec_l7Shape.j0 (k + 1) y0 y1 y2 y3)) ∧ (∀ y0 y1 y2 y3 y4, LeO (spec_l7Shape.l0 k y0 y1 y2 y3 y4) (spec_l7Shape.l0 (k + 1) y0 y1 y2 y3 y4)) ∧ (∀ y0 y1 y2 y3 y4 y5, LeO (spec_l7Shape.l1 k y0 y1 y2 y3 y4 y5) (spec_l7Shape.l1 (k + 1) y0 y1 y2 y3 y4 y5))
  | 0 => ⟨fun _ _ _ _ r h => by simp [spec_l7Shape.j0] at h, fun _ _ _ _ _ r h => by simp [spec_l7Shape.l0] at h, fun _ _ _ _ _ _ r h => by simp [spec_l7Shape.l1] at h⟩
  | k + 1 => by
    obtain ⟨ih0, ih1, ih2⟩ := spec_l7Shape.mono_l k
    refine ⟨?_, ?_, ?_⟩ <;> intros <;> (first | unfold spec_l7Shape.j0 | unfold spec_l7Shape.l0 | unfold spec_l7Shape.l1) <;> (repeat' first
      | (with_reducible exact ih0 _ _ _ _)
      | (with_reducible exact ih1 _ _ _ _ _)
      | (with_reducible exact ih2 _ _ _ _ _ _)
      | (with_reducible exact spec_l1Gcd.mono _ _ _)
      | (with_reducible exact spec_l7Form.mono _ _)
      | (with_reducible exact LeO.refl _)
      | (with_reducible exact LeO.none _)
      | (with_reducible refine LeO.ite ?_ ?_)
      | (with_reducible refine LeO.bind ?_ (fun _ => ?_))
      | exact ih0 _ _ _ _
      | exact ih1 _ _ _ _ _
      | exact ih2 _ _ _ _ _ _
      | exact spec_l1Gcd.mono _ _ _
      | exact spec_l7Form.mono _ _
      | exact LeO.none _
      | refine LeO.ite ?_ ?_
      | refine LeO.bind ?_ (fun _ => ?_))
theorem spec_l7Shape.mono : ∀ a0 a1 a2 k, LeO (spec_l7Shape.f k a0 a1 a2) (spec_l7Shape.f (k + 1) a0 a1 a2) := by
  intro a0 a1 a2 k
  obtain ⟨ih0, ih1, ih2⟩ := spec_l7Shape.mono_l k
  unfold spec_l7Shape.f
  repeat' first
      | (with_reducible exact ih0 _ _ _ _)
      | (with_reducible exact ih1 _ _ _ _ _)
      | (with_reducible exact ih2 _ _ _ _ _ _)
      | (with_reducible exact spec_l1Gcd.mono _ _ _)
      | (with_reducible exact spec_l7Form.mono _ _)
      | (with_reducible exact LeO.refl _)
      | (with_reducible exact LeO.none _)
      | (with_reducible refine LeO.ite ?_ ?_)
      | (with_reducible refine LeO.bind ?_ (fun _ => ?_))
      | exact ih0 _ _ _ _
      | exact ih1 _ _ _ _ _
      | exact ih2 _ _ _ _ _ _
      | exact spec_l1Gcd.mono _ _ _
      | exact spec_l7Form.mono _ _
      | exact LeO.none _
      | refine LeO.ite ?_ ?_
      | refine LeO.bind ?_ (fun _ => ?_)
set_option maxHeartbeats 8000000 in
set_option maxRecDepth 100000 in
theorem spec_l7Shape.calls (k : Nat) (A0 : Option Addr) (c0 : Nat) (l0 : List Int) (A1_0 : Option Addr) (c1_0 : Nat) (l1_0 : List (List Int)) (a1_1 : Int) (r : Bool) (w : World) (hr0 : Kd.C (Kd.int .i64) w A0 l0.length l0) (hc0 : l0.length ≤ c0) (hr1_0 : Kd.C (Kd.slice 3 (Kd.int .i64)) w A1_0 l1_0.length l1_0) (hc1_0 : l1_0.length ≤ c1_0) (h : spec_l7Shape.f k l0 l1_0 a1_1 = some r) :
    Calls Try.prog 82 #[.slice A0 l0.length c0, .agg #[.slice A1_0 l1_0.length c1_0, .int .i64 a1_1]] w fun e w' => e = .returned (.bool r) ∧ Below w.heap.size w w' := by
  have hu27 := Try.underlying27; have HR0 := Aside0.mk hr0; have HC0 := Aside0.mk hc0; clear hr0 hc0; have HR1_0 := Aside0.mk hr1_0; have HC1_0 := Aside0.mk hc1_0; clear hr1_0 hc1_0; have HB := Aside0.mk (Below.refl w.heap.size w); unfold spec_l7Shape.f at h; have H := h; clear h; have HC3 := Aside0.mk H; clear H; go_enter Try.func82, Try.ntmps82
  go_upto_region 1 with (first | ((with_reducible refine gate_dst (N := 3) rfl ?_); (try (refine gate_guard (by rfl) ?_; dsimp only)); refine boxE (N := 3) (cs := #[.slice A1_0 l1_0.length c1_0, .int .i64 a1_1]) (t := 27) ?_; intro gb357 hg w4 hbox hb; have BK357 := Aside0.mk (hbox); have GW357 := GS w hg; have GE357 := GS w hg; replace HB := BS hb; clear hb hbox hg))
  (try simp only [Act.put, List.setIfInBounds_toArray, List.set_cons_zero, List.set_cons_succ])
  go_cut [24] (fun v24 wc => ∃ (kq : Nat) (x24_2 : Bool), v24 = .bool x24_2 ∧ Aside0 (spec_l7Shape.j0 kq l0 x24_2 l1_0 a1_1 = some r) ∧ Aside0 (kq ≤ k) ∧ Aside0 (wc.heap[gb357]? = some (.cells #[(.slice A1_0 l1_0.length c1_0), .int .i64 a1_1] 27 (0, 0))) ∧ Aside0 (Below w.heap.size w wc))
  case first =>
    have H := HC3.out; clear HC3; obtain ⟨t358, A5, H⟩ := bnd H
    by_cases c6 : t358 = true
    · subst c6
      replace H := ifT H
      by_cases c7 : (l1_0.length : Int) = (l0.length : Int)
      · rw [if_pos c7] at H
        have c7b0 : ((l1_0.length : Int) == (l0.length : Int)) = true := beq_iff_eq.mpr c7; have c7b1 : ((l1_0.length : Int) != (l0.length : Int)) = false := bne_eq_false_iff_eq.mpr c7
        have c7b2 : (l1_0.length == l0.length) = true := by first | simpa using c7 | (simp at c7 ⊢; omega)
        clear c7
        (first | rw [c7b0] | (simp only [i64_w, i32_w]; rw [c7b0]) | skip)
        obtain ⟨t359, A8, H⟩ := bnd H; have H' := Aside0.mk H; clear H
        go_wp2_with (first | ((with_reducible refine gate_callee (f := 54) rfl ?_); refine goesK (some 9) Try.func54 #[.slice A0 l0.length c0] ?_; (with_reducible refine (spec_l7Form.calls k _ _ l0 true _ ?side1 ?side2 A5.out).mono ?_); (case side1 => exact U (Kd.C_below HR0.out HB.out)); (case side2 => exact HC0.out); rintro e w' ⟨rfl, ⟨nd, rfl⟩⟩; refine ⟨_, rfl, ?_⟩; obtain ⟨hcz9_0, hcz9_1, hfz9_0, hfz9_1⟩ := bcf BK357) | (go_at_call 86; (with_reducible refine (spec_l6In.calls a1_1 1 10000 t359 _ A8.out).mono ?_); rintro e w' ⟨rfl, ⟨nd, rfl⟩⟩))
        go_meet
        case rel => exact ⟨_, (!t359), sR, H', ⟨oR⟩, ⟨U BK357.out⟩, ⟨BU⟩⟩
      rw [if_neg c7] at H; have c7b0 : ((l1_0.length : Int) == (l0.length : Int)) = false := beq_eq_false_iff_ne.mpr c7; have c7b1 : ((l1_0.length : Int) != (l0.length : Int)) = true := bne_iff_ne.mpr c7
      have c7b2 : (l1_0.length == l0.length) = false := by first | simpa using c7 | (simp at c7 ⊢; omega)
      (first | rw [c7b0] | (simp only [i64_w, i32_w]; rw [c7b0]) | skip)
      have H' := Aside0.mk H; clear H
      go_wp2_with (first | ((with_reducible refine gate_callee (f := 54) rfl ?_); refine goesK (some 9) Try.func54 #[.slice A0 l0.length c0] ?_; (with_reducible refine (spec_l7Form.calls k _ _ l0 true _ ?side1 ?side2 A5.out).mono ?_); (case side1 => exact U (Kd.C_below HR0.out HB.out)); (case side2 => exact HC0.out); rintro e w' ⟨rfl, ⟨nd, rfl⟩⟩; refine ⟨_, rfl, ?_⟩; obtain ⟨hcz10_0, hcz10_1, hfz10_0, hfz10_1⟩ := bcf BK357))
      go_meet
      case rel => exact ⟨_, (true), sR, H', ⟨oR⟩, ⟨U BK357.out⟩, ⟨BU⟩⟩
    replace c6 := Bool.eq_false_iff.mpr c6; subst c6; replace H := ifF H; have H' := Aside0.mk H; clear H
    go_wp2_with (first | ((with_reducible refine gate_callee (f := 54) rfl ?_); refine goesK (some 9) Try.func54 #[.slice A0 l0.length c0] ?_; (with_reducible refine (spec_l7Form.calls k _ _ l0 false _ ?side1 ?side2 A5.out).mono ?_); (case side1 => exact U (Kd.C_below HR0.out HB.out)); (case side2 => exact HC0.out); rintro e w' ⟨rfl, ⟨nd, rfl⟩⟩; refine ⟨_, rfl, ?_⟩))
    go_meet
    case rel => exact ⟨_, (true), sR, H', ⟨oR⟩, ⟨U BK357.out⟩, ⟨BU⟩⟩
  case rest =>
    clear HC3; obtain ⟨kq, x24_2, rfl, HA, HJ2, BK357, HB⟩ := hcut; cases kq with
    | zero => exact absurd HA.out (by simp [spec_l7Shape.j0])
    | succ kj2 =>
      have H := HA.out; clear HA; simp only [spec_l7Shape.j0] at H
      by_cases c11 : x24_2 = true
      · subst c11
        replace H := ifT H; obtain rfl := Option.some.inj H
        go_wp2
        go_ret
        exact ⟨eR, BU⟩
      replace c11 := Bool.eq_false_iff.mpr c11; subst c11; replace H := ifF H; have H' := Aside0.mk H; clear H; obtain ⟨hcz12_0, hcz12_1, hfz12_0, hfz12_1⟩ := bcf BK357
      go_wp2
      go_loopg [5, 6] kj2 (fun kq v5 v6 w' => ∃ (x5_2 : Int) (x6_2 : Int), v5 = .int .i64 x5_2 ∧ v6 = .int .i64 x6_2 ∧ Aside0 (spec_l7Shape.l0 kq l0 x5_2 x6_2 l1_0 a1_1 = some r) ∧ Aside0 (kq ≤ kj2) ∧ Aside0 (w'.heap[gb357]? = some (.cells #[(.slice A1_0 l1_0.length c1_0), .int .i64 a1_1] 27 (0, 0))) ∧ Aside0 (Below w.heap.size w w'))
      case atStart => exact ⟨(a1_1), (0), sR, sR, H', ⟨Nat.le_refl _⟩, ⟨U BK357.out⟩, ⟨BU⟩⟩
      case round =>
        clear H'; (try clear c11); (try clear hcz12_0); (try clear hcz12_1); (try clear hfz12_0); (try clear hfz12_1); obtain ⟨x5_2, x6_2, rfl, rfl, HA, HK2, BK357, HB⟩ := hrel; cases gk with
        | zero => exact absurd HA.out (by simp [spec_l7Shape.l0])
        | succ k2 =>
          have H := HA.out; clear HA; simp only [spec_l7Shape.l0] at H
          by_cases c13 : x6_2 < (l1_0.length : Int)
          · rw [if_pos c13] at H
            have c13b0 : decide (x6_2 < (l1_0.length : Int)) = true := decide_eq_true c13; clear c13; obtain ⟨c14, H⟩ := ifN H; have c14b0 : decide (0 ≤ x6_2) = true := decide_eq_true c14; clear c14
            by_cases c15 : ((rd_L1 l1_0 x6_2).length : Int) = (l0.length : Int)
            · rw [if_pos c15] at H
              have c15b0 : (((rd_L1 l1_0 x6_2).length : Int) == (l0.length : Int)) = true := beq_iff_eq.mpr c15; have c15b1 : (((rd_L1 l1_0 x6_2).length : Int) != (l0.length : Int)) = false := bne_eq_false_iff_eq.mpr c15
              have c15b2 : ((rd_L1 l1_0 x6_2).length == l0.length) = true := by first | simpa using c15 | (simp at c15 ⊢; omega)
              clear c15; have H' := Aside0.mk H; clear H; obtain ⟨hcz16_0, hcz16_1, hfz16_0, hfz16_1⟩ := bcf BK357; have p360 : 0 ≤ (x6_2 : Int) := oD; have q360 : x6_2 < (l1_0.length : Int) := oD; obtain ⟨ad360, A360_0, c360_0, e360, hx360_0, hl360_0, hi360_0⟩ := at_L1 HR1_0.out x6_2 p360 q360; cases e360; replace hx360_0 := (HB.out.cell (World.block_lt_of_cell? w _ hx360_0)).trans hx360_0; have HR360_0 := Aside0.mk hi360_0; have HC360_0 := Aside0.mk hl360_0; clear hi360_0 hl360_0; replace p360 := eq_true p360; replace q360 := eq_true q360
              go_wp2
              go_loopg [5, 7] k2 (fun kq v5 v7 w' => ∃ (x5_3 : Int) (x7_3 : Int), v5 = .int .i64 x5_3 ∧ v7 = .int .i64 x7_3 ∧ Aside0 (spec_l7Shape.l1 kq l0 x5_3 x6_2 x7_3 l1_0 a1_1 = some r) ∧ Aside0 (kq ≤ k2) ∧ Aside0 (w'.heap[gb357]? = some (.cells #[(.slice (some ad360) l1_0.length c1_0), .int .i64 a1_1] 27 (0, 0))) ∧ Aside0 (Below w.heap.size w w'))
              case atStart => exact ⟨(x5_2), (0), sR, sR, H', ⟨Nat.le_refl _⟩, ⟨U BK357.out⟩, ⟨BU⟩⟩
              case round =>
                clear H'; (try clear c11); (try clear c13); (try clear c13b0); (try clear c14); (try clear c14b0); (try clear c15); (try clear c15b0); (try clear c15b1); (try clear c15b2); (try clear hcz12_0); (try clear hcz12_1); (try clear hcz16_0); (try clear hcz16_1); (try clear hfz12_0); (try clear hfz12_1); (try clear hfz16_0); (try clear hfz16_1); (try clear hx360_0); (try clear p360); (try clear q360); obtain ⟨x5_3, x7_3, rfl, rfl, HA, HK3, BK357, HB⟩ := hrel; cases gk with
                | zero => exact absurd HA.out (by simp [spec_l7Shape.l1])
                | succ k3 =>
                  have H := HA.out; clear HA; simp only [spec_l7Shape.l1] at H
                  by_cases c17 : x7_3 < (l0.length : Int)
                  · rw [if_pos c17] at H
                    have c17b0 : decide (x7_3 < (l0.length : Int)) = true := decide_eq_true c17; clear c17; obtain ⟨c18, H⟩ := ifN H; have c18b0 : decide (0 ≤ x6_2) = true := decide_eq_true c18; clear c18; obtain ⟨c19, H⟩ := ifN H; have c19b0 : decide (x6_2 < (l1_0.length : Int)) = true := decide_eq_true c19; clear c19; obtain ⟨c20, H⟩ := ifN H; have c20b0 : decide (0 ≤ x7_3) = true := decide_eq_true c20; clear c20; obtain ⟨c21, H⟩ := ifN H; have c21b0 : decide (x7_3 < ((rd_L1 l1_0 x6_2).length : Int)) = true := decide_eq_true c21; clear c21; obtain ⟨t363, A22, H⟩ := bnd H
                    by_cases c23 : t363 = true
                    · subst c23
                      replace H := ifT H; obtain ⟨t366, A24, H⟩ := bnd H; have H' := Aside0.mk H; clear H; obtain ⟨hcz25_0, hcz25_1, hfz25_0, hfz25_1⟩ := bcf BK357; have p361 : 0 ≤ (x6_2 : Int) := oD; have q361 : x6_2 < (l1_0.length : Int) := oD; obtain ⟨ad361, A361_0, c361_0, e361, hx361_0, hl361_0, hi361_0⟩ := at_L1 HR1_0.out x6_2 p361 q361; obtain rfl : ad360 = ad361 := (by injection e361); replace hx361_0 := (HB.out.cell (World.block_lt_of_cell? w _ hx361_0)).trans hx361_0; have HR361_0 := Aside0.mk hi361_0; have HC361_0 := Aside0.mk hl361_0; clear hi361_0 hl361_0; replace p361 := eq_true p361; replace q361 := eq_true q361; have p362 : 0 ≤ (x7_3 : Int) := oD; have q362 : x7_3 < ((rd_L1 l1_0 x6_2).length : Int) := oD; obtain ⟨ad362, e362, hx362_0⟩ := Kd.at_int HR361_0.out x7_3 p362 q362; cases e362; replace hx362_0 := (HB.out.cell (World.block_lt_of_cell? w _ hx362_0)).trans hx362_0; replace p362 := eq_true p362; replace q362 := eq_true q362
                      go_wp2_with (first | ((with_reducible refine gate_callee (f := 86) rfl ?_); refine goesK (some 57) Try.func86 #[.int .i64 (rd (rd_L1 l1_0 x6_2) x7_3), .int .i64 (-1000000), .int .i64 1000000] ?_; (with_reducible refine (spec_l6In.calls (rd (rd_L1 l1_0 x6_2) x7_3) (-1000000) 1000000 true _ A22.out).mono ?_); rintro e w' ⟨rfl, ⟨nd, rfl⟩⟩; refine ⟨_, rfl, ?_⟩; have p364 : 0 ≤ (x6_2 : Int) := oD; have q364 : x6_2 < (l1_0.length : Int) := oD; obtain ⟨ad364, A364_0, c364_0, e364, hx364_0, hl364_0, hi364_0⟩ := at_L1 HR1_0.out x6_2 p364 q364; obtain rfl : ad360 = ad364 := (by injection e364); replace hx364_0 := (HB.out.cell (World.block_lt_of_cell? w _ hx364_0)).trans hx364_0; have HR364_0 := Aside0.mk hi364_0; have HC364_0 := Aside0.mk hl364_0; clear hi364_0 hl364_0; replace p364 := eq_true p364; replace q364 := eq_true q364; have ea_ := Option.some.inj (hx361_0.symm.trans hx364_0); injection ea_ with ea_ en_ ec_; subst ea_; subst ec_; clear en_; have p365 : 0 ≤ (x7_3 : Int) := oD; have q365 : x7_3 < ((rd_L1 l1_0 x6_2).length : Int) := oD; obtain ⟨ad365, e365, hx365_0⟩ := Kd.at_int HR364_0.out x7_3 p365 q365; cases e365; replace hx365_0 := (HB.out.cell (World.block_lt_of_cell? w _ hx365_0)).trans hx365_0; replace p365 := eq_true p365; replace q365 := eq_true q365) | ((with_reducible refine gate_callee (f := 87) rfl ?_); refine goesK (some 68) Try.func87 #[.int .i64 x5_3, .int .i64 (rd (rd_L1 l1_0 x6_2) x7_3)] ?_; (with_reducible refine (spec_l1Gcd.calls k3 x5_3 (rd (rd_L1 l1_0 x6_2) x7_3) t366 _ A24.out).mono ?_); rintro e w26 ⟨rfl, hb⟩; refine ⟨_, rfl, ?_⟩; replace BK357 := bB BK357 hb; replace HB := BS hb; (try clear hb)))
                      go_roundg k3
                      case measure => have := HJ2.out; have := HK2.out; have := HK3.out; omega
                      case rel => exact ⟨(t366), (wrap64 (x7_3 + 1)), sR, sR, H', ⟨by have := HJ2.out; have := HK2.out; have := HK3.out; omega⟩, ⟨U BK357.out⟩, ⟨BU⟩⟩
                    replace c23 := Bool.eq_false_iff.mpr c23; subst c23; replace H := ifF H; obtain rfl := Option.some.inj H; obtain ⟨hcz27_0, hcz27_1, hfz27_0, hfz27_1⟩ := bcf BK357; have p361 : 0 ≤ (x6_2 : Int) := oD; have q361 : x6_2 < (l1_0.length : Int) := oD; obtain ⟨ad361, A361_0, c361_0, e361, hx361_0, hl361_0, hi361_0⟩ := at_L1 HR1_0.out x6_2 p361 q361; obtain rfl : ad360 = ad361 := (by injection e361); replace hx361_0 := (HB.out.cell (World.block_lt_of_cell? w _ hx361_0)).trans hx361_0; have HR361_0 := Aside0.mk hi361_0; have HC361_0 := Aside0.mk hl361_0; clear hi361_0 hl361_0; replace p361 := eq_true p361; replace q361 := eq_true q361; have p362 : 0 ≤ (x7_3 : Int) := oD; have q362 : x7_3 < ((rd_L1 l1_0 x6_2).length : Int) := oD; obtain ⟨ad362, e362, hx362_0⟩ := Kd.at_int HR361_0.out x7_3 p362 q362; cases e362; replace hx362_0 := (HB.out.cell (World.block_lt_of_cell? w _ hx362_0)).trans hx362_0; replace p362 := eq_true p362; replace q362 := eq_true q362
                    go_wp2_with (first | ((with_reducible refine gate_callee (f := 86) rfl ?_); refine goesK (some 57) Try.func86 #[.int .i64 (rd (rd_L1 l1_0 x6_2) x7_3), .int .i64 (-1000000), .int .i64 1000000] ?_; (with_reducible refine (spec_l6In.calls (rd (rd_L1 l1_0 x6_2) x7_3) (-1000000) 1000000 false _ A22.out).mono ?_); rintro e w' ⟨rfl, ⟨nd, rfl⟩⟩; refine ⟨_, rfl, ?_⟩))
                    go_ret
                    exact ⟨eR, BU⟩
                  rw [if_neg c17] at H; have c17b0 : decide (x7_3 < (l0.length : Int)) = false := decide_eq_false c17; clear c17; have H' := Aside0.mk H; clear H
                  go_wp2
                  go_roundg k3
                  case measure => have := HJ2.out; have := HK2.out; have := HK3.out; omega
                  case rel => exact ⟨(x5_3), (wrap64 (x6_2 + 1)), sR, sR, H', ⟨by have := HJ2.out; have := HK2.out; have := HK3.out; omega⟩, ⟨U BK357.out⟩, ⟨BU⟩⟩
            rw [if_neg c15] at H; have c15b0 : (((rd_L1 l1_0 x6_2).length : Int) == (l0.length : Int)) = false := beq_eq_false_iff_ne.mpr c15; have c15b1 : (((rd_L1 l1_0 x6_2).length : Int) != (l0.length : Int)) = true := bne_iff_ne.mpr c15
            have c15b2 : ((rd_L1 l1_0 x6_2).length == l0.length) = false := by first | simpa using c15 | (simp at c15 ⊢; omega)
            obtain rfl := Option.some.inj H; obtain ⟨hcz28_0, hcz28_1, hfz28_0, hfz28_1⟩ := bcf BK357; have p360 : 0 ≤ (x6_2 : Int) := oD; have q360 : x6_2 < (l1_0.length : Int) := oD; obtain ⟨ad360, A360_0, c360_0, e360, hx360_0, hl360_0, hi360_0⟩ := at_L1 HR1_0.out x6_2 p360 q360; cases e360; replace hx360_0 := (HB.out.cell (World.block_lt_of_cell? w _ hx360_0)).trans hx360_0; have HR360_0 := Aside0.mk hi360_0; have HC360_0 := Aside0.mk hl360_0; clear hi360_0 hl360_0; replace p360 := eq_true p360; replace q360 := eq_true q360
            go_wp2
            go_ret
            exact ⟨eR, BU⟩
          rw [if_neg c13] at H; have c13b0 : decide (x6_2 < (l1_0.length : Int)) = false := decide_eq_false c13; clear c13; obtain rfl := Option.some.inj H; obtain ⟨hcz29_0, hcz29_1, hfz29_0, hfz29_1⟩ := bcf BK357
          go_wp2
          go_ret
          exact ⟨eR, BU⟩

end Go.Proofs.Ytnbeeogmaamgdaa.PFnMirror
