-- Written by a program of this session (wip/print2.py): the functions that the law reaches, plain, and the walks.
import Derived.Test.YtnbeeogmaamgdaaPFnMoveMulx0
namespace Go.Proofs.Ytnbeeogmaamgdaa.PFnMoveMul
open Go.RowKit Go.Proofs.YtnbeeogmaamgdaaW.PrintWords Go.Proofs.YtnbeeogmaamgdaaW.PrintLast Go.Proofs.YtnbeeogmaamgdaaW.PrintMore
attribute [local go_sem] max2_int min2_int max_two min_two max_three min_three max_four min_four   -- for this text's walks alone
set_option linter.unusedVariables false
set_option linter.unusedSimpArgs false

/-! ### spec_l6In: function 86 -/
def spec_l6In.f (a0 : Int) (a1 : Int) (a2 : Int) : Option (Bool) := if a0 ≥ a1 then (some (decide (a0 ≤ a2))) else (some false)
set_option maxHeartbeats 8000000 in
set_option maxRecDepth 100000 in
theorem spec_l6In.calls (a0 : Int) (a1 : Int) (a2 : Int) (r : Bool) (w : World) (h : spec_l6In.f a0 a1 a2 = some r) :
    Calls Try.prog 86 #[.int .i64 a0, .int .i64 a1, .int .i64 a2] w fun e w' => e = .returned (.bool r) ∧ Drawn0 w w' := by
  unfold spec_l6In.f at h; have H := h; clear h
  by_cases c4 : a0 ≥ a1
  · rw [if_pos c4] at H
    have c4b0 : decide (a1 ≤ a0) = true := decide_eq_true c4; clear c4; obtain rfl := Option.some.inj H; go_enter Try.func86, Try.ntmps86
    go_wp2
    go_ret
    exact ⟨by first | rfl | (simp; done) | (simp [*]; done), by repeat (first | exact Drawn0.refl _ | apply Drawn0.step)⟩
  rw [if_neg c4] at H; have c4b0 : decide (a1 ≤ a0) = false := decide_eq_false c4; clear c4; obtain rfl := Option.some.inj H; go_enter Try.func86, Try.ntmps86
  go_wp2
  go_ret
  exact ⟨by first | rfl | (simp; done) | (simp [*]; done), by repeat (first | exact Drawn0.refl _ | apply Drawn0.step)⟩

/-! ### spec_FormValid: function 85 -/
def spec_FormValid.l0 : Nat → List Int → Int → Option (Bool)
  | 0, _, _ => none
  | k + 1, x0, x3 => if x3 < (x0.length : Int) then (if 0 ≤ x3 then (if (rd x0 x3) = 0 then (some false) else ((spec_l6In.f (rd x0 x3) (-30) 30).bind fun t250 => (if t250 = true then (spec_FormValid.l0 k x0 (wrap64 (x3 + 1))) else (some false)))) else (none)) else ((spec_l6In.f (x0.length : Int) 1 4).bind fun t251 => (some t251))
def spec_FormValid.f (k : Nat) (l0 : List Int) : Option (Bool) := spec_FormValid.l0 k l0 0
theorem spec_FormValid.mono_l : ∀ k, (∀ y0 y1, LeO (spec_FormValid.l0 k y0 y1) (spec_FormValid.l0 (k + 1) y0 y1))
  | 0 => fun _ _ r h => by simp [spec_FormValid.l0] at h
  | k + 1 => by
    have ih0 := spec_FormValid.mono_l k
    · intro y0 y1
      unfold spec_FormValid.l0
      repeat' first
      | (with_reducible exact ih0 _ _)
      | (with_reducible exact LeO.refl _)
      | (with_reducible exact LeO.none _)
      | (with_reducible refine LeO.ite ?_ ?_)
      | (with_reducible refine LeO.bind ?_ (fun _ => ?_))
      | exact ih0 _ _
      | exact LeO.none _
      | refine LeO.ite ?_ ?_
      | refine LeO.bind ?_ (fun _ => ?_)
theorem spec_FormValid.mono : ∀ a0 k, LeO (spec_FormValid.f k a0) (spec_FormValid.f (k + 1) a0) := by
  intro a0 k
  have ih0 := spec_FormValid.mono_l k
  unfold spec_FormValid.f
  repeat' first
      | (with_reducible exact ih0 _ _)
      | (with_reducible exact LeO.refl _)
      | (with_reducible exact LeO.none _)
      | (with_reducible refine LeO.ite ?_ ?_)
      | (with_reducible refine LeO.bind ?_ (fun _ => ?_))
      | exact ih0 _ _
      | exact LeO.none _
      | refine LeO.ite ?_ ?_
      | refine LeO.bind ?_ (fun _ => ?_)
set_option maxHeartbeats 8000000 in
set_option maxRecDepth 100000 in
theorem spec_FormValid.calls (k : Nat) (A0 : Option Addr) (c0 : Nat) (l0 : List Int) (r : Bool) (w : World) (hr0 : Kd.C (Kd.int .i64) w A0 l0.length l0) (hc0 : l0.length ≤ c0) (h : spec_FormValid.f k l0 = some r) :
    Calls Try.prog 85 #[.slice A0 l0.length c0] w fun e w' => e = .returned (.bool r) ∧ Drawn0 w w' := by
  have HR0 := Aside0.mk hr0; have HC0 := Aside0.mk hc0; clear hr0 hc0; unfold spec_FormValid.f at h; have H := h; clear h; have H' := Aside0.mk H; clear H; go_enter Try.func85, Try.ntmps85
  go_wp2
  go_loopg [3] k (fun kq v3 w' => ∃ (x3_1 : Int), v3 = .int .i64 x3_1 ∧ Aside0 (spec_FormValid.l0 kq l0 x3_1 = some r) ∧ Aside0 (kq ≤ k) ∧ Drawn0 w w')
  case atStart => exact ⟨(0), sR, H', ⟨Nat.le_refl _⟩, by repeat (first | exact Drawn0.refl _ | apply Drawn0.step)⟩
  case round =>
    clear H'; obtain ⟨x3_1, rfl, HA, HK1, ⟨m1, rfl⟩⟩ := hrel; cases gk with
    | zero => exact absurd HA.out (by simp [spec_FormValid.l0])
    | succ k1 =>
      have H := HA.out; clear HA; simp only [spec_FormValid.l0] at H
      by_cases c2 : x3_1 < (l0.length : Int)
      · rw [if_pos c2] at H
        have c2b0 : decide (x3_1 < (l0.length : Int)) = true := decide_eq_true c2; clear c2; obtain ⟨c3, H⟩ := ifN H; have c3b0 : decide (0 ≤ x3_1) = true := decide_eq_true c3; clear c3
        by_cases c4 : (rd l0 x3_1) = 0
        · rw [if_pos c4] at H
          have c4b0 : ((rd l0 x3_1) == 0) = true := beq_iff_eq.mpr c4; have c4b1 : ((rd l0 x3_1) != 0) = false := bne_eq_false_iff_eq.mpr c4; clear c4; obtain rfl := Option.some.inj H; have p248 : 0 ≤ (x3_1 : Int) := oD; have q248 : x3_1 < (l0.length : Int) := oD; obtain ⟨ad248, e248, hx248_0⟩ := Kd.at_int HR0.out x3_1 p248 q248; cases e248; replace p248 := eq_true p248; replace q248 := eq_true q248
          go_wp2
          go_ret
          exact ⟨by first | rfl | (simp; done) | (simp [*]; done), by repeat (first | exact Drawn0.refl _ | apply Drawn0.step)⟩
        rw [if_neg c4] at H; have c4b0 : ((rd l0 x3_1) == 0) = false := beq_eq_false_iff_ne.mpr c4; have c4b1 : ((rd l0 x3_1) != 0) = true := bne_iff_ne.mpr c4; obtain ⟨t250, A5, H⟩ := bnd H
        by_cases c6 : t250 = true
        · subst c6
          replace H := ifT H; have H' := Aside0.mk H; clear H; have p248 : 0 ≤ (x3_1 : Int) := oD; have q248 : x3_1 < (l0.length : Int) := oD; obtain ⟨ad248, e248, hx248_0⟩ := Kd.at_int HR0.out x3_1 p248 q248; cases e248; replace p248 := eq_true p248; replace q248 := eq_true q248; have p249 : 0 ≤ (x3_1 : Int) := oD; have q249 : x3_1 < (l0.length : Int) := oD; obtain ⟨ad249, e249, hx249_0⟩ := Kd.at_int HR0.out x3_1 p249 q249; obtain rfl : ad248 = ad249 := (by injection e249); replace p249 := eq_true p249; replace q249 := eq_true q249
          go_wp2_with (first | (go_at_call 86; (with_reducible refine (spec_l6In.calls (rd l0 x3_1) (-30) 30 true _ A5.out).mono ?_); rintro e w' ⟨rfl, ⟨nd, rfl⟩⟩))
          go_roundg k1
          case measure => have := HK1.out; omega
          case rel => exact ⟨(wrap64 (x3_1 + 1)), sR, H', ⟨by have := HK1.out; omega⟩, by repeat (first | exact Drawn0.refl _ | apply Drawn0.step)⟩
        replace c6 := Bool.eq_false_iff.mpr c6; subst c6; replace H := ifF H; obtain rfl := Option.some.inj H; have p248 : 0 ≤ (x3_1 : Int) := oD; have q248 : x3_1 < (l0.length : Int) := oD; obtain ⟨ad248, e248, hx248_0⟩ := Kd.at_int HR0.out x3_1 p248 q248; cases e248; replace p248 := eq_true p248; replace q248 := eq_true q248; have p249 : 0 ≤ (x3_1 : Int) := oD; have q249 : x3_1 < (l0.length : Int) := oD; obtain ⟨ad249, e249, hx249_0⟩ := Kd.at_int HR0.out x3_1 p249 q249; obtain rfl : ad248 = ad249 := (by injection e249); replace p249 := eq_true p249; replace q249 := eq_true q249
        go_wp2_with (first | (go_at_call 86; (with_reducible refine (spec_l6In.calls (rd l0 x3_1) (-30) 30 false _ A5.out).mono ?_); rintro e w' ⟨rfl, ⟨nd, rfl⟩⟩))
        go_ret
        exact ⟨by first | rfl | (simp; done) | (simp [*]; done), by repeat (first | exact Drawn0.refl _ | apply Drawn0.step)⟩
      rw [if_neg c2] at H; have c2b0 : decide (x3_1 < (l0.length : Int)) = false := decide_eq_false c2; clear c2; obtain ⟨t251, A7, H⟩ := bnd H; obtain rfl := Option.some.inj H
      go_wp2_with (first | ((with_reducible refine gate_callee (f := 86) rfl ?_); refine goesK (some 25) Try.func86 #[.int .i64 (l0.length : Int), .int .i64 1, .int .i64 4] ?_; (with_reducible refine (spec_l6In.calls (l0.length : Int) 1 4 t251 _ A7.out).mono ?_); rintro e w' ⟨rfl, ⟨nd, rfl⟩⟩; refine ⟨_, rfl, ?_⟩))
      go_ret
      exact ⟨by first | rfl | (simp; done) | (simp [*]; done), by repeat (first | exact Drawn0.refl _ | apply Drawn0.step)⟩

/-! ### spec_l7Form: function 54 -/
def spec_l7Form.f (k : Nat) (l0 : List Int) : Option (Bool) := (spec_FormValid.f k l0).bind fun t252 => (if t252 = true then (some (decide ((l0.length : Int) ≤ 3))) else (some false))
theorem spec_l7Form.mono : ∀ a0 k, LeO (spec_l7Form.f k a0) (spec_l7Form.f (k + 1) a0) := by
  intro a0 k
  unfold spec_l7Form.f
  repeat' first
      | (with_reducible exact spec_FormValid.mono _ _)
      | (with_reducible exact LeO.refl _)
      | (with_reducible exact LeO.none _)
      | (with_reducible refine LeO.ite ?_ ?_)
      | (with_reducible refine LeO.bind ?_ (fun _ => ?_))
      | exact spec_FormValid.mono _ _
      | exact LeO.none _
      | refine LeO.ite ?_ ?_
      | refine LeO.bind ?_ (fun _ => ?_)
set_option maxHeartbeats 8000000 in
set_option maxRecDepth 100000 in
theorem spec_l7Form.calls (k : Nat) (A0 : Option Addr) (c0 : Nat) (l0 : List Int) (r : Bool) (w : World) (hr0 : Kd.C (Kd.int .i64) w A0 l0.length l0) (hc0 : l0.length ≤ c0) (h : spec_l7Form.f k l0 = some r) :
    Calls Try.prog 54 #[.slice A0 l0.length c0] w fun e w' => e = .returned (.bool r) ∧ Drawn0 w w' := by
  have HR0 := Aside0.mk hr0; have HC0 := Aside0.mk hc0; clear hr0 hc0; unfold spec_l7Form.f at h; have H := h; clear h; obtain ⟨t252, A2, H⟩ := bnd H
  by_cases c3 : t252 = true
  · subst c3
    replace H := ifT H; obtain rfl := Option.some.inj H; go_enter Try.func54, Try.ntmps54
    go_wp2_with (first | ((with_reducible refine gate_callee (f := 85) rfl ?_); refine goesK (some 4) Try.func85 #[.slice A0 l0.length c0] ?_; (with_reducible refine (spec_FormValid.calls k _ _ l0 true _ ?side1 ?side2 A2.out).mono ?_); (case side1 => exact U HR0.out); (case side2 => exact HC0.out); rintro e w' ⟨rfl, ⟨nd, rfl⟩⟩; refine ⟨_, rfl, ?_⟩))
    go_ret
    exact ⟨by first | rfl | (simp; done) | (simp [*]; done), by repeat (first | exact Drawn0.refl _ | apply Drawn0.step)⟩
  replace c3 := Bool.eq_false_iff.mpr c3; subst c3; replace H := ifF H; obtain rfl := Option.some.inj H; go_enter Try.func54, Try.ntmps54
  go_wp2_with (first | ((with_reducible refine gate_callee (f := 85) rfl ?_); refine goesK (some 4) Try.func85 #[.slice A0 l0.length c0] ?_; (with_reducible refine (spec_FormValid.calls k _ _ l0 false _ ?side1 ?side2 A2.out).mono ?_); (case side1 => exact U HR0.out); (case side2 => exact HC0.out); rintro e w' ⟨rfl, ⟨nd, rfl⟩⟩; refine ⟨_, rfl, ?_⟩))
  go_ret
  exact ⟨by first | rfl | (simp; done) | (simp [*]; done), by repeat (first | exact Drawn0.refl _ | apply Drawn0.step)⟩

/-! ### spec_l1Size: function 80 -/
def spec_l1Size.f (a0 : Int) : Option (Int) := some (mx a0 (wrap64 (-a0)))
set_option maxHeartbeats 8000000 in
set_option maxRecDepth 100000 in
theorem spec_l1Size.calls (a0 : Int) (r : Int) (w : World) (h : spec_l1Size.f a0 = some r) :
    Calls Try.prog 80 #[.int .i64 a0] w fun e w' => e = .returned (.int .i64 r) ∧ Below w.heap.size w w' := by
  have HB := Aside0.mk (Below.refl w.heap.size w); unfold spec_l1Size.f at h; have H := h; clear h; obtain ⟨ji2, hji2⟩ : ∃ j_ : Int, (mx a0 (wrap64 (-a0))) = j_ := ⟨_, rfl⟩
  replace H : (some ji2) = some r := by first | (rw [hji2] at H; exact H) | (simp only [hji2] at H ⊢; exact H)
  have hji2_ : (if a0 < (wrap64 (-a0)) then (wrap64 (-a0)) else a0) = ji2 := hji2; obtain rfl := Option.some.inj H; go_enter Try.func80, Try.ntmps80
  go_wp2
  go_ret
  exact ⟨by first | rfl | (simp [errW_none, errW_some] <;> rfl) | (simp only [← hji2]; first | rfl | (simp [errW_none, errW_some] <;> rfl)) | (simp [*, errW_none, errW_some] <;> rfl), BU⟩

/-! ### spec_l1Gcd: function 87 -/
def spec_l1Gcd.l0 : Nat → Int → Int → Option (Int)
  | 0, _, _ => none
  | k + 1, x0, x1 => if x1 = 0 then (some x0) else (spec_l1Gcd.l0 k x1 (Int.tmod x0 x1))
def spec_l1Gcd.f (k : Nat) (a0 : Int) (a1 : Int) : Option (Int) := (spec_l1Size.f a0).bind fun t253 => ((spec_l1Size.f a1).bind fun t254 => (spec_l1Gcd.l0 k t253 t254))
theorem spec_l1Gcd.mono_l : ∀ k, (∀ y0 y1, LeO (spec_l1Gcd.l0 k y0 y1) (spec_l1Gcd.l0 (k + 1) y0 y1))
  | 0 => fun _ _ r h => by simp [spec_l1Gcd.l0] at h
  | k + 1 => by
    have ih0 := spec_l1Gcd.mono_l k
    · intro y0 y1
      unfold spec_l1Gcd.l0
      repeat' first
      | (with_reducible exact ih0 _ _)
      | (with_reducible exact LeO.refl _)
      | (with_reducible exact LeO.none _)
      | (with_reducible refine LeO.ite ?_ ?_)
      | (with_reducible refine LeO.bind ?_ (fun _ => ?_))
      | exact ih0 _ _
      | exact LeO.none _
      | refine LeO.ite ?_ ?_
      | refine LeO.bind ?_ (fun _ => ?_)
theorem spec_l1Gcd.mono : ∀ a0 a1 k, LeO (spec_l1Gcd.f k a0 a1) (spec_l1Gcd.f (k + 1) a0 a1) := by
  intro a0 a1 k
  have ih0 := spec_l1Gcd.mono_l k
  unfold spec_l1Gcd.f
  repeat' first
      | (with_reducible exact ih0 _ _)
      | (with_reducible exact LeO.refl _)
      | (with_reducible exact LeO.none _)
      | (with_reducible refine LeO.ite ?_ ?_)
      | (with_reducible refine LeO.bind ?_ (fun _ => ?_))
      | exact ih0 _ _
      | exact LeO.none _
      | refine LeO.ite ?_ ?_
      | refine LeO.bind ?_ (fun _ => ?_)
set_option maxHeartbeats 8000000 in
set_option maxRecDepth 100000 in
theorem spec_l1Gcd.calls (k : Nat) (a0 : Int) (a1 : Int) (r : Int) (w : World) (h : spec_l1Gcd.f k a0 a1 = some r) :
    Calls Try.prog 87 #[.int .i64 a0, .int .i64 a1] w fun e w' => e = .returned (.int .i64 r) ∧ Below w.heap.size w w' := by
  have HB := Aside0.mk (Below.refl w.heap.size w); unfold spec_l1Gcd.f at h; have H := h; clear h; obtain ⟨t253, A3, H⟩ := bnd H; obtain ⟨t254, A4, H⟩ := bnd H; have H' := Aside0.mk H; clear H; go_enter Try.func87, Try.ntmps87
  go_wp2_with (first | ((with_reducible refine gate_callee (f := 80) rfl ?_); refine goesK (some 7) Try.func80 #[.int .i64 a0] ?_; (with_reducible refine (spec_l1Size.calls a0 t253 _ A3.out).mono ?_); rintro e w5 ⟨rfl, hb⟩; refine ⟨_, rfl, ?_⟩; replace HB := BS hb; (try clear hb)) | ((with_reducible refine gate_callee (f := 80) rfl ?_); refine goesK (some 9) Try.func80 #[.int .i64 a1] ?_; (with_reducible refine (spec_l1Size.calls a1 t254 _ A4.out).mono ?_); rintro e w6 ⟨rfl, hb⟩; refine ⟨_, rfl, ?_⟩; replace HB := BS hb; (try clear hb)))
  go_loopg [0, 1] k (fun kq v0 v1 w' => ∃ (x0_1 : Int) (x1_1 : Int), v0 = .int .i64 x0_1 ∧ v1 = .int .i64 x1_1 ∧ Aside0 (spec_l1Gcd.l0 kq x0_1 x1_1 = some r) ∧ Aside0 (kq ≤ k) ∧ Aside0 (Below w.heap.size w w'))
  case atStart => exact ⟨(t253), (t254), sR, sR, H', ⟨Nat.le_refl _⟩, ⟨BU⟩⟩
  case round =>
    clear H'; obtain ⟨x0_1, x1_1, rfl, rfl, HA, HK1, HB⟩ := hrel; cases gk with
    | zero => exact absurd HA.out (by simp [spec_l1Gcd.l0])
    | succ k1 =>
      have H := HA.out; clear HA; simp only [spec_l1Gcd.l0] at H
      by_cases c7 : x1_1 = 0
      · rw [if_pos c7] at H
        have c7b0 : (x1_1 == 0) = true := beq_iff_eq.mpr c7; have c7b1 : (x1_1 != 0) = false := bne_eq_false_iff_eq.mpr c7; clear c7; obtain rfl := Option.some.inj H
        go_wp2
        go_ret
        exact ⟨eR, BU⟩
      rw [if_neg c7] at H; have c7b0 : (x1_1 == 0) = false := beq_eq_false_iff_ne.mpr c7; have c7b1 : (x1_1 != 0) = true := bne_iff_ne.mpr c7; have H' := Aside0.mk H; clear H
      go_wp2
      go_roundg k1
      case measure => have := HK1.out; omega
      case rel => exact ⟨(x1_1), (Int.tmod x0_1 x1_1), sR, sR, H', ⟨by have := HK1.out; omega⟩, ⟨BU⟩⟩

/-! ### spec_l7Shape: function 82 -/
mutual
def spec_l7Shape.j0 : Nat → List Int → Bool → List (List Int) → Int → Option (Bool)
  | 0, _, _, _, _ => none
  | k + 1, x0, x24, x256000, x256001 => if x24 = true then (some false) else (spec_l7Shape.l0 k x0 x256001 0 x256000 x256001)
def spec_l7Shape.l0 : Nat → List Int → Int → Int → List (List Int) → Int → Option (Bool)
  | 0, _, _, _, _, _ => none
  | k + 1, x0, x5, x6, x256000, x256001 => if x6 < (x256000.length : Int) then (if 0 ≤ x6 then (if ((rd_L1 x256000 x6).length : Int) = (x0.length : Int) then (spec_l7Shape.l1 k x0 x5 x6 0 x256000 x256001) else (some false)) else (none)) else (some (x5 == 1))
def spec_l7Shape.l1 : Nat → List Int → Int → Int → Int → List (List Int) → Int → Option (Bool)
  | 0, _, _, _, _, _, _ => none
  | k + 1, x0, x5, x6, x7, x256000, x256001 => if x7 < (x0.length : Int) then (if 0 ≤ x6 then (if x6 < (x256000.length : Int) then (if 0 ≤ x7 then (if x7 < ((rd_L1 x256000 x6).length : Int) then ((spec_l6In.f (rd (rd_L1 x256000 x6) x7) (-1000000) 1000000).bind fun t261 => (if t261 = true then ((spec_l1Gcd.f k x5 (rd (rd_L1 x256000 x6) x7)).bind fun t264 => (spec_l7Shape.l1 k x0 t264 x6 (wrap64 (x7 + 1)) x256000 x256001)) else (some false))) else (none)) else (none)) else (none)) else (none)) else (spec_l7Shape.l0 k x0 x5 (wrap64 (x6 + 1)) x256000 x256001)
end
def spec_l7Shape.f (k : Nat) (l0 : List Int) (l1_0 : List (List Int)) (a1_1 : Int) : Option (Bool) := (spec_l7Form.f k l0).bind fun t256 => (if t256 = true then (if (l1_0.length : Int) = (l0.length : Int) then ((spec_l6In.f a1_1 1 10000).bind fun t257 => (spec_l7Shape.j0 k l0 (!t257) l1_0 a1_1)) else (spec_l7Shape.j0 k l0 true l1_0 a1_1)) else (spec_l7Shape.j0 k l0 true l1_0 a1_1))
theorem spec_l7Shape.mono_l : ∀ k, (∀ y0 y1 y2 y3, LeO (spec_l7Shape.j0 k y0 y1 y2 y3) (spec_l7Shape.j0 (k + 1) y0 y1 y2 y3)) ∧ (∀ y0 y1 y2 y3 y4, LeO (spec_l7Shape.l0 k y0 y1 y2 y3 y4) (spec_l7Shape.l0 (k + 1) y0 y1 y2 y3 y4)) ∧ (∀ y0 y1 y2 y3 y4 y5, LeO (spec_l7Shape.l1 k y0 y1 y2 y3 y4 y5) (spec_l7Shape.l1 (k + 1) y0 y1 y2 y3 y4 y5))
  | 0 => ⟨fun _ _ _ _ r h => by simp [spec_l7Shape.j0] at h, fun _ _ _ _ _ r h => by simp [spec_l7Shape.l0] at h, fun _ _ _ _ _ _ r h => by simp [spec_l7Shape.l1] at h⟩
  | k + 1 => by
    obtain ⟨ih0, ih1, ih2⟩ := spec_l7Shape.mono_l k
    refine ⟨?_, ?_, ?_⟩ <;> intros <;> (first | unfold spec_l7Shape.j0 | unfold spec_l7Shape.l0 | unfold spec_l7Shape.l1) <;> (repeat' first
      | (with_reducible exact ih0 _ _ _ _)
      | (with_reducible exact ih1 _ _ _ _ _)
      | (with_reducible exact ih2 _ _ _ _ _ _)
      | (with_reducible exact spec_l1Gcd.mono _ _ _)
      | (with_reducible exact spec_l7Form.mono _ _)
      | (with_reducible exact LeO.refl _)
      | (with_reducible exact LeO.none _)
      | (with_reducible refine LeO.ite ?_ ?_)
      | (with_reducible refine LeO.bind ?_ (fun _ => ?_))
      | exact ih0 _ _ _ _
      | exact ih1 _ _ _ _ _
      | exact ih2 _ _ _ _ _ _
      | exact spec_l1Gcd.mono _ _ _
      | exact spec_l7Form.mono _ _
      | exact LeO.none _
      | refine LeO.ite ?_ ?_
      | refine LeO.bind ?_ (fun _ => ?_))
theorem spec_l7Shape.mono : ∀ a0 a1 a2 k, LeO (spec_l7Shape.f k a0 a1 a2) (spec_l7Shape.f (k + 1) a0 a1 a2) := by
  intro a0 a1 a2 k
  obtain ⟨ih0, ih1, ih2⟩ := spec_l7Shape.mono_l k
  unfold spec_l7Shape.f
  repeat' first
      | (with_reducible exact ih0 _ _ _ _)
      | (with_reducible exact ih1 _ _ _ _ _)
      | (with_reducible exact ih2 _ _ _ _ _ _)
      | (with_reducible exact spec_l1Gcd.mono _ _ _)
      | (with_reducible exact spec_l7Form.mono _ _)
      | (with_reducible exact LeO.refl _)
      | (with_reducible exact LeO.none _)
      | (with_reducible refine LeO.ite ?_ ?_)
      | (with_reducible refine LeO.bind ?_ (fun _ => ?_))
      | exact ih0 _ _ _ _
      | exact ih1 _ _ _ _ _
      | exact ih2 _ _ _ _ _ _
      | exact spec_l1Gcd.mono _ _ _
      | exact spec_l7Form.mono _ _
      | exact LeO.none _
      | refine LeO.ite ?_ ?_
      | refine LeO.bind ?_ (fun _ => ?_)
set_option maxHeartbeats 8000000 in
set_option maxRecDepth 100000 in
theorem spec_l7Shape.calls (k : Nat) (A0 : Option Addr) (c0 : Nat) (l0 : List Int) (A1_0 : Option Addr) (c1_0 : Nat) (l1_0 : List (List Int)) (a1_1 : Int) (r : Bool) (w : World) (hr0 : Kd.C (Kd.int .i64) w A0 l0.length l0) (hc0 : l0.length ≤ c0) (hr1_0 : Kd.C (Kd.slice 3 (Kd.int .i64)) w A1_0 l1_0.length l1_0) (hc1_0 : l1_0.length ≤ c1_0) (h : spec_l7Shape.f k l0 l1_0 a1_1 = some r) :
    Calls Try.prog 82 #[.slice A0 l0.length c0, .agg #[.slice A1_0 l1_0.length c1_0, .int .i64 a1_1]] w fun e w' => e = .returned (.bool r) ∧ Below w.heap.size w w' := by
  have hu27 := Try.underlying27; have HR0 := Aside0.mk hr0; have HC0 := Aside0.mk hc0; clear hr0 hc0; have HR1_0 := Aside0.mk hr1_0; have HC1_0 := Aside0.mk hc1_0; clear hr1_0 hc1_0; have HB := Aside0.mk (Below.refl w.heap.size w); unfold spec_l7Shape.f at h; have H := h; clear h; have HC3 := Aside0.mk H; clear H; go_enter Try.func82, Try.ntmps82
  go_upto_region 1 with (first | ((with_reducible refine gate_dst (N := 3) rfl ?_); (try (refine gate_guard (by rfl) ?_; dsimp only)); refine boxE (N := 3) (cs := #[.slice A1_0 l1_0.length c1_0, .int .i64 a1_1]) (t := 27) ?_; intro gb255 hg w4 hbox hb; have BK255 := Aside0.mk (hbox); have GW255 := GS w hg; have GE255 := GS w hg; replace HB := BS hb; clear hb hbox hg))
  (try simp only [Act.put, List.setIfInBounds_toArray, List.set_cons_zero, List.set_cons_succ])
  go_cut [24] (fun v24 wc => ∃ (kq : Nat) (x24_2 : Bool), v24 = .bool x24_2 ∧ Aside0 (spec_l7Shape.j0 kq l0 x24_2 l1_0 a1_1 = some r) ∧ Aside0 (kq ≤ k) ∧ Aside0 (wc.heap[gb255]? = some (.cells #[(.slice A1_0 l1_0.length c1_0), .int .i64 a1_1] 27 (0, 0))) ∧ Aside0 (Below w.heap.size w wc))
  case first =>
    have H := HC3.out; clear HC3; obtain ⟨t256, A5, H⟩ := bnd H
    by_cases c6 : t256 = true
    · subst c6
      replace H := ifT H
      by_cases c7 : (l1_0.length : Int) = (l0.length : Int)
      · rw [if_pos c7] at H
        have c7b0 : ((l1_0.length : Int) == (l0.length : Int)) = true := beq_iff_eq.mpr c7; have c7b1 : ((l1_0.length : Int) != (l0.length : Int)) = false := bne_eq_false_iff_eq.mpr c7
        have c7b2 : (l1_0.length == l0.length) = true := by first | simpa using c7 | (simp at c7 ⊢; omega)
        clear c7
        (first | rw [c7b0] | (simp only [i64_w, i32_w]; rw [c7b0]) | skip)
        obtain ⟨t257, A8, H⟩ := bnd H; have H' := Aside0.mk H; clear H
        go_wp2_with (first | ((with_reducible refine gate_callee (f := 54) rfl ?_); refine goesK (some 9) Try.func54 #[.slice A0 l0.length c0] ?_; (with_reducible refine (spec_l7Form.calls k _ _ l0 true _ ?side1 ?side2 A5.out).mono ?_); (case side1 => exact U (Kd.C_below HR0.out HB.out)); (case side2 => exact HC0.out); rintro e w' ⟨rfl, ⟨nd, rfl⟩⟩; refine ⟨_, rfl, ?_⟩; obtain ⟨hcz9_0, hcz9_1, hfz9_0, hfz9_1⟩ := bcf BK255) | (go_at_call 86; (with_reducible refine (spec_l6In.calls a1_1 1 10000 t257 _ A8.out).mono ?_); rintro e w' ⟨rfl, ⟨nd, rfl⟩⟩))
        go_meet
        case rel => exact ⟨_, (!t257), sR, H', ⟨oR⟩, ⟨U BK255.out⟩, ⟨BU⟩⟩
      rw [if_neg c7] at H; have c7b0 : ((l1_0.length : Int) == (l0.length : Int)) = false := beq_eq_false_iff_ne.mpr c7; have c7b1 : ((l1_0.length : Int) != (l0.length : Int)) = true := bne_iff_ne.mpr c7
      have c7b2 : (l1_0.length == l0.length) = false := by first | simpa using c7 | (simp at c7 ⊢; omega)
      (first | rw [c7b0] | (simp only [i64_w, i32_w]; rw [c7b0]) | skip)
      have H' := Aside0.mk H; clear H
      go_wp2_with (first | ((with_reducible refine gate_callee (f := 54) rfl ?_); refine goesK (some 9) Try.func54 #[.slice A0 l0.length c0] ?_; (with_reducible refine (spec_l7Form.calls k _ _ l0 true _ ?side1 ?side2 A5.out).mono ?_); (case side1 => exact U (Kd.C_below HR0.out HB.out)); (case side2 => exact HC0.out); rintro e w' ⟨rfl, ⟨nd, rfl⟩⟩; refine ⟨_, rfl, ?_⟩; obtain ⟨hcz10_0, hcz10_1, hfz10_0, hfz10_1⟩ := bcf BK255))
      go_meet
      case rel => exact ⟨_, (true), sR, H', ⟨oR⟩, ⟨U BK255.out⟩, ⟨BU⟩⟩
    replace c6 := Bool.eq_false_iff.mpr c6; subst c6; replace H := ifF H; have H' := Aside0.mk H; clear H
    go_wp2_with (first | ((with_reducible refine gate_callee (f := 54) rfl ?_); refine goesK (some 9) Try.func54 #[.slice A0 l0.length c0] ?_; (with_reducible refine (spec_l7Form.calls k _ _ l0 false _ ?side1 ?side2 A5.out).mono ?_); (case side1 => exact U (Kd.C_below HR0.out HB.out)); (case side2 => exact HC0.out); rintro e w' ⟨rfl, ⟨nd, rfl⟩⟩; refine ⟨_, rfl, ?_⟩))
    go_meet
    case rel => exact ⟨_, (true), sR, H', ⟨oR⟩, ⟨U BK255.out⟩, ⟨BU⟩⟩
  case rest =>
    clear HC3; obtain ⟨kq, x24_2, rfl, HA, HJ2, BK255, HB⟩ := hcut; cases kq with
    | zero => exact absurd HA.out (by simp [spec_l7Shape.j0])
    | succ kj2 =>
      have H := HA.out; clear HA; simp only [spec_l7Shape.j0] at H
      by_cases c11 : x24_2 = true
      · subst c11
        replace H := ifT H; obtain rfl := Option.some.inj H
        go_wp2
        go_ret
        exact ⟨eR, BU⟩
      replace c11 := Bool.eq_false_iff.mpr c11; subst c11; replace H := ifF H; have H' := Aside0.mk H; clear H; obtain ⟨hcz12_0, hcz12_1, hfz12_0, hfz12_1⟩ := bcf BK255
      go_wp2
      go_loopg [5, 6] kj2 (fun kq v5 v6 w' => ∃ (x5_2 : Int) (x6_2 : Int), v5 = .int .i64 x5_2 ∧ v6 = .int .i64 x6_2 ∧ Aside0 (spec_l7Shape.l0 kq l0 x5_2 x6_2 l1_0 a1_1 = some r) ∧ Aside0 (kq ≤ kj2) ∧ Aside0 (w'.heap[gb255]? = some (.cells #[(.slice A1_0 l1_0.length c1_0), .int .i64 a1_1] 27 (0, 0))) ∧ Aside0 (Below w.heap.size w w'))
      case atStart => exact ⟨(a1_1), (0), sR, sR, H', ⟨Nat.le_refl _⟩, ⟨U BK255.out⟩, ⟨BU⟩⟩
      case round =>
        clear H'; (try clear c11); (try clear hcz12_0); (try clear hcz12_1); (try clear hfz12_0); (try clear hfz12_1); obtain ⟨x5_2, x6_2, rfl, rfl, HA, HK2, BK255, HB⟩ := hrel; cases gk with
        | zero => exact absurd HA.out (by simp [spec_l7Shape.l0])
        | succ k2 =>
          have H := HA.out; clear HA; simp only [spec_l7Shape.l0] at H
          by_cases c13 : x6_2 < (l1_0.length : Int)
          · rw [if_pos c13] at H
            have c13b0 : decide (x6_2 < (l1_0.length : Int)) = true := decide_eq_true c13; clear c13; obtain ⟨c14, H⟩ := ifN H; have c14b0 : decide (0 ≤ x6_2) = true := decide_eq_true c14; clear c14
            by_cases c15 : ((rd_L1 l1_0 x6_2).length : Int) = (l0.length : Int)
            · rw [if_pos c15] at H
              have c15b0 : (((rd_L1 l1_0 x6_2).length : Int) == (l0.length : Int)) = true := beq_iff_eq.mpr c15; have c15b1 : (((rd_L1 l1_0 x6_2).length : Int) != (l0.length : Int)) = false := bne_eq_false_iff_eq.mpr c15
              have c15b2 : ((rd_L1 l1_0 x6_2).length == l0.length) = true := by first | simpa using c15 | (simp at c15 ⊢; omega)
              clear c15; have H' := Aside0.mk H; clear H; obtain ⟨hcz16_0, hcz16_1, hfz16_0, hfz16_1⟩ := bcf BK255; have p258 : 0 ≤ (x6_2 : Int) := oD; have q258 : x6_2 < (l1_0.length : Int) := oD; obtain ⟨ad258, A258_0, c258_0, e258, hx258_0, hl258_0, hi258_0⟩ := at_L1 HR1_0.out x6_2 p258 q258; cases e258; replace hx258_0 := (HB.out.cell (World.block_lt_of_cell? w _ hx258_0)).trans hx258_0; have HR258_0 := Aside0.mk hi258_0; have HC258_0 := Aside0.mk hl258_0; clear hi258_0 hl258_0; replace p258 := eq_true p258; replace q258 := eq_true q258
              go_wp2
              go_loopg [5, 7] k2 (fun kq v5 v7 w' => ∃ (x5_3 : Int) (x7_3 : Int), v5 = .int .i64 x5_3 ∧ v7 = .int .i64 x7_3 ∧ Aside0 (spec_l7Shape.l1 kq l0 x5_3 x6_2 x7_3 l1_0 a1_1 = some r) ∧ Aside0 (kq ≤ k2) ∧ Aside0 (w'.heap[gb255]? = some (.cells #[(.slice (some ad258) l1_0.length c1_0), .int .i64 a1_1] 27 (0, 0))) ∧ Aside0 (Below w.heap.size w w'))
              case atStart => exact ⟨(x5_2), (0), sR, sR, H', ⟨Nat.le_refl _⟩, ⟨U BK255.out⟩, ⟨BU⟩⟩
              case round =>
                clear H'; (try clear c11); (try clear c13); (try clear c13b0); (try clear c14); (try clear c14b0); (try clear c15); (try clear c15b0); (try clear c15b1); (try clear c15b2); (try clear hcz12_0); (try clear hcz12_1); (try clear hcz16_0); (try clear hcz16_1); (try clear hfz12_0); (try clear hfz12_1); (try clear hfz16_0); (try clear hfz16_1); (try clear hx258_0); (try clear p258); (try clear q258); obtain ⟨x5_3, x7_3, rfl, rfl, HA, HK3, BK255, HB⟩ := hrel; cases gk with
                | zero => exact absurd HA.out (by simp [spec_l7Shape.l1])
                | succ k3 =>
                  have H := HA.out; clear HA; simp only [spec_l7Shape.l1] at H
                  by_cases c17 : x7_3 < (l0.length : Int)
                  · rw [if_pos c17] at H
                    have c17b0 : decide (x7_3 < (l0.length : Int)) = true := decide_eq_true c17; clear c17; obtain ⟨c18, H⟩ := ifN H; have c18b0 : decide (0 ≤ x6_2) = true := decide_eq_true c18; clear c18; obtain ⟨c19, H⟩ := ifN H; have c19b0 : decide (x6_2 < (l1_0.length : Int)) = true := decide_eq_true c19; clear c19; obtain ⟨c20, H⟩ := ifN H; have c20b0 : decide (0 ≤ x7_3) = true := decide_eq_true c20; clear c20; obtain ⟨c21, H⟩ := ifN H; have c21b0 : decide (x7_3 < ((rd_L1 l1_0 x6_2).length : Int)) = true := decide_eq_true c21; clear c21; obtain ⟨t261, A22, H⟩ := bnd H
                    by_cases c23 : t261 = true
                    · subst c23
                      replace H := ifT H; obtain ⟨t264, A24, H⟩ := bnd H; have H' := Aside0.mk H; clear H; obtain ⟨hcz25_0, hcz25_1, hfz25_0, hfz25_1⟩ := bcf BK255; have p259 : 0 ≤ (x6_2 : Int) := oD; have q259 : x6_2 < (l1_0.length : Int) := oD; obtain ⟨ad259, A259_0, c259_0, e259, hx259_0, hl259_0, hi259_0⟩ := at_L1 HR1_0.out x6_2 p259 q259; obtain rfl : ad258 = ad259 := (by injection e259); replace hx259_0 := (HB.out.cell (World.block_lt_of_cell? w _ hx259_0)).trans hx259_0; have HR259_0 := Aside0.mk hi259_0; have HC259_0 := Aside0.mk hl259_0; clear hi259_0 hl259_0; replace p259 := eq_true p259; replace q259 := eq_true q259; have p260 : 0 ≤ (x7_3 : Int) := oD; have q260 : x7_3 < ((rd_L1 l1_0 x6_2).length : Int) := oD; obtain ⟨ad260, e260, hx260_0⟩ := Kd.at_int HR259_0.out x7_3 p260 q260; cases e260; replace hx260_0 := (HB.out.cell (World.block_lt_of_cell? w _ hx260_0)).trans hx260_0; replace p260 := eq_true p260; replace q260 := eq_true q260
                      go_wp2_with (first | ((with_reducible refine gate_callee (f := 86) rfl ?_); refine goesK (some 57) Try.func86 #[.int .i64 (rd (rd_L1 l1_0 x6_2) x7_3), .int .i64 (-1000000), .int .i64 1000000] ?_; (with_reducible refine (spec_l6In.calls (rd (rd_L1 l1_0 x6_2) x7_3) (-1000000) 1000000 true _ A22.out).mono ?_); rintro e w' ⟨rfl, ⟨nd, rfl⟩⟩; refine ⟨_, rfl, ?_⟩; have p262 : 0 ≤ (x6_2 : Int) := oD; have q262 : x6_2 < (l1_0.length : Int) := oD; obtain ⟨ad262, A262_0, c262_0, e262, hx262_0, hl262_0, hi262_0⟩ := at_L1 HR1_0.out x6_2 p262 q262; obtain rfl : ad258 = ad262 := (by injection e262); replace hx262_0 := (HB.out.cell (World.block_lt_of_cell? w _ hx262_0)).trans hx262_0; have HR262_0 := Aside0.mk hi262_0; have HC262_0 := Aside0.mk hl262_0; clear hi262_0 hl262_0; replace p262 := eq_true p262; replace q262 := eq_true q262; have ea_ := Option.some.inj (hx259_0.symm.trans hx262_0); injection ea_ with ea_ en_ ec_; subst ea_; subst ec_; clear en_; have p263 : 0 ≤ (x7_3 : Int) := oD; have q263 : x7_3 < ((rd_L1 l1_0 x6_2).length : Int) := oD; obtain ⟨ad263, e263, hx263_0⟩ := Kd.at_int HR262_0.out x7_3 p263 q263; cases e263; replace hx263_0 := (HB.out.cell (World.block_lt_of_cell? w _ hx263_0)).trans hx263_0; replace p263 := eq_true p263; replace q263 := eq_true q263) | ((with_reducible refine gate_callee (f := 87) rfl ?_); refine goesK (some 68) Try.func87 #[.int .i64 x5_3, .int .i64 (rd (rd_L1 l1_0 x6_2) x7_3)] ?_; (with_reducible refine (spec_l1Gcd.calls k3 x5_3 (rd (rd_L1 l1_0 x6_2) x7_3) t264 _ A24.out).mono ?_); rintro e w26 ⟨rfl, hb⟩; refine ⟨_, rfl, ?_⟩; replace BK255 := bB BK255 hb; replace HB := BS hb; (try clear hb)))
                      go_roundg k3
                      case measure => have := HJ2.out; have := HK2.out; have := HK3.out; omega
                      case rel => exact ⟨(t264), (wrap64 (x7_3 + 1)), sR, sR, H', ⟨by have := HJ2.out; have := HK2.out; have := HK3.out; omega⟩, ⟨U BK255.out⟩, ⟨BU⟩⟩
                    replace c23 := Bool.eq_false_iff.mpr c23; subst c23; replace H := ifF H; obtain rfl := Option.some.inj H; obtain ⟨hcz27_0, hcz27_1, hfz27_0, hfz27_1⟩ := bcf BK255; have p259 : 0 ≤ (x6_2 : Int) := oD; have q259 : x6_2 < (l1_0.length : Int) := oD; obtain ⟨ad259, A259_0, c259_0, e259, hx259_0, hl259_0, hi259_0⟩ := at_L1 HR1_0.out x6_2 p259 q259; obtain rfl : ad258 = ad259 := (by injection e259); replace hx259_0 := (HB.out.cell (World.block_lt_of_cell? w _ hx259_0)).trans hx259_0; have HR259_0 := Aside0.mk hi259_0; have HC259_0 := Aside0.mk hl259_0; clear hi259_0 hl259_0; replace p259 := eq_true p259; replace q259 := eq_true q259; have p260 : 0 ≤ (x7_3 : Int) := oD; have q260 : x7_3 < ((rd_L1 l1_0 x6_2).length : Int) := oD; obtain ⟨ad260, e260, hx260_0⟩ := Kd.at_int HR259_0.out x7_3 p260 q260; cases e260; replace hx260_0 := (HB.out.cell (World.block_lt_of_cell? w _ hx260_0)).trans hx260_0; replace p260 := eq_true p260; replace q260 := eq_true q260
                    go_wp2_with (first | ((with_reducible refine gate_callee (f := 86) rfl ?_); refine goesK (some 57) Try.func86 #[.int .i64 (rd (rd_L1 l1_0 x6_2) x7_3), .int .i64 (-1000000), .int .i64 1000000] ?_; (with_reducible refine (spec_l6In.calls (rd (rd_L1 l1_0 x6_2) x7_3) (-1000000) 1000000 false _ A22.out).mono ?_); rintro e w' ⟨rfl, ⟨nd, rfl⟩⟩; refine ⟨_, rfl, ?_⟩))
                    go_ret
                    exact ⟨eR, BU⟩
                  rw [if_neg c17] at H; have c17b0 : decide (x7_3 < (l0.length : Int)) = false := decide_eq_false c17; clear c17; have H' := Aside0.mk H; clear H
                  go_wp2
                  go_roundg k3
                  case measure => have := HJ2.out; have := HK2.out; have := HK3.out; omega
                  case rel => exact ⟨(x5_3), (wrap64 (x6_2 + 1)), sR, sR, H', ⟨by have := HJ2.out; have := HK2.out; have := HK3.out; omega⟩, ⟨U BK255.out⟩, ⟨BU⟩⟩
            rw [if_neg c15] at H; have c15b0 : (((rd_L1 l1_0 x6_2).length : Int) == (l0.length : Int)) = false := beq_eq_false_iff_ne.mpr c15; have c15b1 : (((rd_L1 l1_0 x6_2).length : Int) != (l0.length : Int)) = true := bne_iff_ne.mpr c15
            have c15b2 : ((rd_L1 l1_0 x6_2).length == l0.length) = false := by first | simpa using c15 | (simp at c15 ⊢; omega)
            obtain rfl := Option.some.inj H; obtain ⟨hcz28_0, hcz28_1, hfz28_0, hfz28_1⟩ := bcf BK255; have p258 : 0 ≤ (x6_2 : Int) := oD; have q258 : x6_2 < (l1_0.length : Int) := oD; obtain ⟨ad258, A258_0, c258_0, e258, hx258_0, hl258_0, hi258_0⟩ := at_L1 HR1_0.out x6_2 p258 q258; cases e258; replace hx258_0 := (HB.out.cell (World.block_lt_of_cell? w _ hx258_0)).trans hx258_0; have HR258_0 := Aside0.mk hi258_0; have HC258_0 := Aside0.mk hl258_0; clear hi258_0 hl258_0; replace p258 := eq_true p258; replace q258 := eq_true q258
            go_wp2
            go_ret
            exact ⟨eR, BU⟩
          rw [if_neg c13] at H; have c13b0 : decide (x6_2 < (l1_0.length : Int)) = false := decide_eq_false c13; clear c13; obtain rfl := Option.some.inj H; obtain ⟨hcz29_0, hcz29_1, hfz29_0, hfz29_1⟩ := bcf BK255
          go_wp2
          go_ret
          exact ⟨eR, BU⟩

end Go.Proofs.Ytnbeeogmaamgdaa.PFnMoveMul
