-- Written by a program of this session (wip/print2.py): the functions that the law reaches, plain, and the walks.
import Derived.Test.YtnbeeogmaamgdaaPFnOnx0
import Derived.Test.YtnbeeogmaamgdaaPFnOnx7
import Derived.Test.YtnbeeogmaamgdaaPFnOnx8
import Derived.Test.YtnbeeogmaamgdaaPFnOnx11
import Derived.Test.YtnbeeogmaamgdaaPFnOnx13
namespace Go.Proofs.Ytnbeeogmaamgdaa.PFnOn
open Go.RowKit Go.Proofs.YtnbeeogmaamgdaaW.PrintWords Go.Proofs.YtnbeeogmaamgdaaW.PrintLast Go.Proofs.YtnbeeogmaamgdaaW.PrintMore
attribute [local go_sem] max2_int min2_int max_two min_two max_three min_three max_four min_four   -- for this text's walks alone
set_option linter.unusedVariables false
set_option linter.unusedSimpArgs false

/-! ### laws_sameInts: function 25 -/
def laws_sameInts.l0 : Nat → List Int → List Int → Int → Option (Bool)
  | 0, _, _, _ => none
  | k + 1, x0, x1, x5 => if x5 < (x0.length : Int) then (if 0 ≤ x5 then (if x5 < (x1.length : Int) then (if (rd x0 x5) = (rd x1 x5) then (laws_sameInts.l0 k x0 x1 (wrap64 (x5 + 1))) else (some false)) else (none)) else (none)) else (some true)
def laws_sameInts.f (k : Nat) (l0 : List Int) (l1 : List Int) : Option (Bool) := if (l0.length : Int) = (l1.length : Int) then (laws_sameInts.l0 k l0 l1 0) else (some false)
theorem laws_sameInts.mono_l : ∀ k, (∀ y0 y1 y2, LeO (laws_sameInts.l0 k y0 y1 y2) (laws_sameInts.l0 (k + 1) y0 y1 y2))
  | 0 => fun _ _ _ r h => by simp [laws_sameInts.l0] at h
  | k + 1 => by
    have ih0 := laws_sameInts.mono_l k
    · intro y0 y1 y2
      unfold laws_sameInts.l0
      repeat' first
      | (with_reducible exact ih0 _ _ _)
      | (with_reducible exact LeO.refl _)
      | (with_reducible exact LeO.none _)
      | (with_reducible refine LeO.ite ?_ ?_)
      | (with_reducible refine LeO.bind ?_ (fun _ => ?_))
      | exact ih0 _ _ _
      | exact LeO.none _
      | refine LeO.ite ?_ ?_
      | refine LeO.bind ?_ (fun _ => ?_)
theorem laws_sameInts.mono : ∀ a0 a1 k, LeO (laws_sameInts.f k a0 a1) (laws_sameInts.f (k + 1) a0 a1) := by
  intro a0 a1 k
  have ih0 := laws_sameInts.mono_l k
  unfold laws_sameInts.f
  repeat' first
      | (with_reducible exact ih0 _ _ _)
      | (with_reducible exact LeO.refl _)
      | (with_reducible exact LeO.none _)
      | (with_reducible refine LeO.ite ?_ ?_)
      | (with_reducible refine LeO.bind ?_ (fun _ => ?_))
      | exact ih0 _ _ _
      | exact LeO.none _
      | refine LeO.ite ?_ ?_
      | refine LeO.bind ?_ (fun _ => ?_)
set_option maxHeartbeats 8000000 in
set_option maxRecDepth 100000 in
theorem laws_sameInts.calls (k : Nat) (A0 : Option Addr) (c0 : Nat) (l0 : List Int) (A1 : Option Addr) (c1 : Nat) (l1 : List Int) (r : Bool) (w : World) (hr0 : Kd.C (Kd.int .i64) w A0 l0.length l0) (hc0 : l0.length ≤ c0) (hr1 : Kd.C (Kd.int .i64) w A1 l1.length l1) (hc1 : l1.length ≤ c1) (h : laws_sameInts.f k l0 l1 = some r) :
    Calls Try.prog 25 #[.slice A0 l0.length c0, .slice A1 l1.length c1] w fun e w' => e = .returned (.bool r) ∧ Drawn0 w w' := by
  have HR0 := Aside0.mk hr0; have HC0 := Aside0.mk hc0; clear hr0 hc0; have HR1 := Aside0.mk hr1; have HC1 := Aside0.mk hc1; clear hr1 hc1; unfold laws_sameInts.f at h; have H := h; clear h
  by_cases c3 : (l0.length : Int) = (l1.length : Int)
  · rw [if_pos c3] at H
    have c3b0 : ((l0.length : Int) == (l1.length : Int)) = true := beq_iff_eq.mpr c3; have c3b1 : ((l0.length : Int) != (l1.length : Int)) = false := bne_eq_false_iff_eq.mpr c3
    have c3b2 : (l0.length == l1.length) = true := by first | simpa using c3 | (simp at c3 ⊢; omega)
    clear c3; have H' := Aside0.mk H; clear H; go_enter Try.func25, Try.ntmps25
    go_wp2
    repeat (go_quiet (fail); try go_wp2)
    go_loopg [5] k (fun kq v5 w' => ∃ (x5_1 : Int), v5 = .int .i64 x5_1 ∧ Aside0 (laws_sameInts.l0 kq l0 l1 x5_1 = some r) ∧ Aside0 (kq ≤ k) ∧ Drawn0 w w')
    case atStart => exact ⟨(0), sR, H', ⟨Nat.le_refl _⟩, by repeat (first | exact Drawn0.refl _ | apply Drawn0.step)⟩
    case round =>
      clear H'; (try clear c3); (try clear c3b0); (try clear c3b1); (try clear c3b2); obtain ⟨x5_1, rfl, HA, HK1, ⟨m1, rfl⟩⟩ := hrel; cases gk with
      | zero => exact absurd HA.out (by simp [laws_sameInts.l0])
      | succ k1 =>
        have H := HA.out; clear HA; simp only [laws_sameInts.l0] at H
        by_cases c4 : x5_1 < (l0.length : Int)
        · rw [if_pos c4] at H
          have c4b0 : decide (x5_1 < (l0.length : Int)) = true := decide_eq_true c4; clear c4; obtain ⟨c5, H⟩ := ifN H; have c5b0 : decide (0 ≤ x5_1) = true := decide_eq_true c5; clear c5; obtain ⟨c6, H⟩ := ifN H; have c6b0 : decide (x5_1 < (l1.length : Int)) = true := decide_eq_true c6; clear c6
          by_cases c7 : (rd l0 x5_1) = (rd l1 x5_1)
          · rw [if_pos c7] at H
            have c7b0 : ((rd l0 x5_1) == (rd l1 x5_1)) = true := beq_iff_eq.mpr c7; have c7b1 : ((rd l0 x5_1) != (rd l1 x5_1)) = false := bne_eq_false_iff_eq.mpr c7; clear c7; have H' := Aside0.mk H; clear H; have p430 : 0 ≤ (x5_1 : Int) := oD; have q430 : x5_1 < (l0.length : Int) := oD; obtain ⟨ad430, e430, hx430_0⟩ := Kd.at_int HR0.out x5_1 p430 q430; cases e430; replace p430 := eq_true p430; replace q430 := eq_true q430; have p431 : 0 ≤ (x5_1 : Int) := oD; have q431 : x5_1 < (l1.length : Int) := oD; obtain ⟨ad431, e431, hx431_0⟩ := Kd.at_int HR1.out x5_1 p431 q431; cases e431; replace p431 := eq_true p431; replace q431 := eq_true q431
            go_wp2
            repeat (go_quiet (fail); try go_wp2)
            go_roundg k1
            case measure => have := HK1.out; omega
            case rel => exact ⟨(wrap64 (x5_1 + 1)), sR, H', ⟨by have := HK1.out; omega⟩, by repeat (first | exact Drawn0.refl _ | apply Drawn0.step)⟩
          rw [if_neg c7] at H; have c7b0 : ((rd l0 x5_1) == (rd l1 x5_1)) = false := beq_eq_false_iff_ne.mpr c7; have c7b1 : ((rd l0 x5_1) != (rd l1 x5_1)) = true := bne_iff_ne.mpr c7; obtain rfl := Option.some.inj H; have p430 : 0 ≤ (x5_1 : Int) := oD; have q430 : x5_1 < (l0.length : Int) := oD; obtain ⟨ad430, e430, hx430_0⟩ := Kd.at_int HR0.out x5_1 p430 q430; cases e430; replace p430 := eq_true p430; replace q430 := eq_true q430; have p431 : 0 ≤ (x5_1 : Int) := oD; have q431 : x5_1 < (l1.length : Int) := oD; obtain ⟨ad431, e431, hx431_0⟩ := Kd.at_int HR1.out x5_1 p431 q431; cases e431; replace p431 := eq_true p431; replace q431 := eq_true q431
          go_wp2
          repeat (go_quiet (fail); try go_wp2)
          go_ret
          exact ⟨by first | rfl | (simp; done) | (simp [*]; done), by repeat (first | exact Drawn0.refl _ | apply Drawn0.step)⟩
        rw [if_neg c4] at H; have c4b0 : decide (x5_1 < (l0.length : Int)) = false := decide_eq_false c4; clear c4; obtain rfl := Option.some.inj H
        go_wp2
        repeat (go_quiet (fail); try go_wp2)
        go_ret
        exact ⟨by first | rfl | (simp; done) | (simp [*]; done), by repeat (first | exact Drawn0.refl _ | apply Drawn0.step)⟩
  rw [if_neg c3] at H; have c3b0 : ((l0.length : Int) == (l1.length : Int)) = false := beq_eq_false_iff_ne.mpr c3; have c3b1 : ((l0.length : Int) != (l1.length : Int)) = true := bne_iff_ne.mpr c3
  have c3b2 : (l0.length == l1.length) = false := by first | simpa using c3 | (simp at c3 ⊢; omega)
  obtain rfl := Option.some.inj H; go_enter Try.func25, Try.ntmps25
  go_wp2
  repeat (go_quiet (fail); try go_wp2)
  go_ret
  exact ⟨by first | rfl | (simp; done) | (simp [*]; done), by repeat (first | exact Drawn0.refl _ | apply Drawn0.step)⟩

/-! ### impl_FormValue: function 26 -/
def impl_FormValue.f (k : Nat) (l0 : List Int) (l1 : List Int) : Option (Int × Bool) := (impl_FormValid.f k l0).bind fun t432 => (if t432 = true then ((impl_vectorOk.f k l0 l1 1000).bind fun t433 => (if t433 = true then ((impl_pair.f k l0 l1 l1).bind fun t434 => (some (t434, true))) else (some (0, false)))) else (some (0, false)))
theorem impl_FormValue.mono : ∀ a0 a1 k, LeO (impl_FormValue.f k a0 a1) (impl_FormValue.f (k + 1) a0 a1) := by
  intro a0 a1 k
  unfold impl_FormValue.f
  repeat' first
      | (with_reducible exact impl_FormValid.mono _ _)
      | (with_reducible exact impl_pair.mono _ _ _ _)
      | (with_reducible exact impl_vectorOk.mono _ _ _ _)
      | (with_reducible exact LeO.refl _)
      | (with_reducible exact LeO.none _)
      | (with_reducible refine LeO.ite ?_ ?_)
      | (with_reducible refine LeO.bind ?_ (fun _ => ?_))
      | exact impl_FormValid.mono _ _
      | exact impl_pair.mono _ _ _ _
      | exact impl_vectorOk.mono _ _ _ _
      | exact LeO.none _
      | refine LeO.ite ?_ ?_
      | refine LeO.bind ?_ (fun _ => ?_)
set_option maxHeartbeats 8000000 in
set_option maxRecDepth 100000 in
theorem impl_FormValue.calls (k : Nat) (A0 : Option Addr) (c0 : Nat) (l0 : List Int) (A1 : Option Addr) (c1 : Nat) (l1 : List Int) (r1 : Int) (r2 : Bool) (w : World) (hr0 : Kd.C (Kd.int .i64) w A0 l0.length l0) (hc0 : l0.length ≤ c0) (hr1 : Kd.C (Kd.int .i64) w A1 l1.length l1) (hc1 : l1.length ≤ c1) (h : impl_FormValue.f k l0 l1 = some (r1, r2)) :
    Calls Try.prog 26 #[.slice A0 l0.length c0, .slice A1 l1.length c1] w fun e w' => e = .returned (.tuple #[.int .i64 r1, .bool r2]) ∧ Below w.heap.size w w' := by
  have HR0 := Aside0.mk hr0; have HC0 := Aside0.mk hc0; clear hr0 hc0; have HR1 := Aside0.mk hr1; have HC1 := Aside0.mk hc1; clear hr1 hc1; have HB := Aside0.mk (Below.refl w.heap.size w); unfold impl_FormValue.f at h; have H := h; clear h; obtain ⟨t432, A3, H⟩ := bnd H
  by_cases c4 : t432 = true
  · subst c4
    replace H := ifT H; obtain ⟨t433, A5, H⟩ := bnd H
    by_cases c6 : t433 = true
    · subst c6
      replace H := ifT H; obtain ⟨t434, A7, H⟩ := bnd H; simp only [Option.some.injEq, Prod.mk.injEq] at H; obtain ⟨rfl, rfl⟩ := H; go_enter Try.func26, Try.ntmps26
      go_wp2_with (first | ((with_reducible refine gate_callee (f := 52) rfl ?_); refine goesK (some 7) Try.func52 #[.slice A0 l0.length c0] ?_; (with_reducible refine (impl_FormValid.calls k _ _ l0 true _ ?side1 ?side2 A3.out).mono ?_); (case side1 => exact U HR0.out); (case side2 => exact HC0.out); rintro e w8 ⟨rfl, hb⟩; refine ⟨_, rfl, ?_⟩; replace HB := BS hb; (try clear hb)) | (go_at_call 56; (with_reducible refine (impl_vectorOk.calls k _ _ l0 _ _ l1 1000 true _ ?side1 ?side2 ?side3 ?side4 A5.out).mono ?_); (case side1 => exact U (Kd.C_below HR0.out HB.out)); (case side2 => exact HC0.out); (case side3 => exact U (Kd.C_below HR1.out HB.out)); (case side4 => exact HC1.out); rintro e w' ⟨rfl, ⟨nd, rfl⟩⟩) | ((with_reducible refine gate_callee (f := 57) rfl ?_); refine goesK (some 18) Try.func57 #[.slice A0 l0.length c0, .slice A1 l1.length c1, .slice A1 l1.length c1] ?_; (with_reducible refine (impl_pair.calls k _ _ l0 _ _ l1 _ _ l1 t434 _ ?side1 ?side2 ?side3 ?side4 ?side5 ?side6 A7.out).mono ?_); (case side1 => exact U (Kd.C_below HR0.out BU)); (case side2 => exact HC0.out); (case side3 => exact U (Kd.C_below HR1.out BU)); (case side4 => exact HC1.out); (case side5 => exact U (Kd.C_below HR1.out BU)); (case side6 => exact HC1.out); rintro e w' ⟨rfl, ⟨nd, rfl⟩⟩; refine ⟨_, rfl, ?_⟩))
      go_ret2
      exact ⟨eR, BU⟩
    replace c6 := Bool.eq_false_iff.mpr c6; subst c6; replace H := ifF H; simp only [Option.some.injEq, Prod.mk.injEq] at H; obtain ⟨rfl, rfl⟩ := H; go_enter Try.func26, Try.ntmps26
    go_wp2_with (first | ((with_reducible refine gate_callee (f := 52) rfl ?_); refine goesK (some 7) Try.func52 #[.slice A0 l0.length c0] ?_; (with_reducible refine (impl_FormValid.calls k _ _ l0 true _ ?side1 ?side2 A3.out).mono ?_); (case side1 => exact U HR0.out); (case side2 => exact HC0.out); rintro e w9 ⟨rfl, hb⟩; refine ⟨_, rfl, ?_⟩; replace HB := BS hb; (try clear hb)) | (go_at_call 56; (with_reducible refine (impl_vectorOk.calls k _ _ l0 _ _ l1 1000 false _ ?side1 ?side2 ?side3 ?side4 A5.out).mono ?_); (case side1 => exact U (Kd.C_below HR0.out HB.out)); (case side2 => exact HC0.out); (case side3 => exact U (Kd.C_below HR1.out HB.out)); (case side4 => exact HC1.out); rintro e w' ⟨rfl, ⟨nd, rfl⟩⟩))
    go_ret2
    exact ⟨eR, BU⟩
  replace c4 := Bool.eq_false_iff.mpr c4; subst c4; replace H := ifF H; simp only [Option.some.injEq, Prod.mk.injEq] at H; obtain ⟨rfl, rfl⟩ := H; go_enter Try.func26, Try.ntmps26
  go_wp2_with (first | ((with_reducible refine gate_callee (f := 52) rfl ?_); refine goesK (some 7) Try.func52 #[.slice A0 l0.length c0] ?_; (with_reducible refine (impl_FormValid.calls k _ _ l0 false _ ?side1 ?side2 A3.out).mono ?_); (case side1 => exact U HR0.out); (case side2 => exact HC0.out); rintro e w10 ⟨rfl, hb⟩; refine ⟨_, rfl, ?_⟩; replace HB := BS hb; (try clear hb)))
  go_ret2
  exact ⟨eR, BU⟩

/-! ### laws_FnOn: function 4 -/
mutual
def laws_FnOn.j0 : Nat → List Int → List Int → List Int → Int → Bool → List Int → Int → Bool → Bool → Option (Bool)
  | 0, _, _, _, _, _, _, _, _, _ => none
  | k + 1, x3, x5, x6, x7, x8, x9, x10, x11, x58 => if x58 = true then (if (x8 == x11) = true then ((laws_sameInts.f k x6 x9).bind fun t457 => (if t457 = true then (some (x7 == x10)) else (none))) else (none)) else ((impl_FormValue.f k x3 x5).bind fun bt458 => (laws_FnOn.l0 k x3 x6 x7 bt458.1 bt458.2 0 0))
def laws_FnOn.l0 : Nat → List Int → List Int → Int → Int → Bool → Int → Int → Option (Bool)
  | 0, _, _, _, _, _, _, _ => none
  | k + 1, x3, x6, x7, x12, x13, x14, x15 => if x15 < (x3.length : Int) then (if 0 ≤ x15 then (if x15 < (x6.length : Int) then (laws_FnOn.l0 k x3 x6 x7 x12 x13 (wrap64 (x14 + (wrap64 ((wrap64 ((rd x3 x15) * (rd x6 x15))) * (rd x6 x15))))) (wrap64 (x15 + 1))) else (none)) else (none)) else (if x13 = true then (if x14 = (wrap64 ((wrap64 (x12 * x7)) * x7)) then (some (decide (x7 ≥ 1))) else (none)) else (none))
end
def laws_FnOn.f (k : Nat) (l0 : List Int) : Option (Bool) := if (l0.length : Int) > 1048576 then (some true) else ((spec_DrawMoveOn.f k l0).bind fun bt435 => ((impl_MoveOn.f k bt435.1 bt435.2.1 bt435.2.2.1 bt435.2.2.2).bind fun bt446 => ((spec_MoveOn.f k bt435.1 bt435.2.1 bt435.2.2.1 bt435.2.2.2).bind fun bt451 => (if (bt446.2.2 != bt451.2.2) = true then (laws_FnOn.j0 k bt435.1 bt435.2.2.2 bt446.1 bt446.2.1 bt446.2.2 bt451.1 bt451.2.1 bt451.2.2 true) else ((laws_sameInts.f k bt446.1 bt451.1).bind fun t456 => (if t456 = true then (if bt446.2.1 = bt451.2.1 then (laws_FnOn.j0 k bt435.1 bt435.2.2.2 bt446.1 bt446.2.1 bt446.2.2 bt451.1 bt451.2.1 bt451.2.2 (!bt446.2.2)) else (laws_FnOn.j0 k bt435.1 bt435.2.2.2 bt446.1 bt446.2.1 bt446.2.2 bt451.1 bt451.2.1 bt451.2.2 true)) else (laws_FnOn.j0 k bt435.1 bt435.2.2.2 bt446.1 bt446.2.1 bt446.2.2 bt451.1 bt451.2.1 bt451.2.2 true)))))))
theorem laws_FnOn.mono_l : ∀ k, (∀ y0 y1 y2 y3 y4 y5 y6 y7 y8, LeO (laws_FnOn.j0 k y0 y1 y2 y3 y4 y5 y6 y7 y8) (laws_FnOn.j0 (k + 1) y0 y1 y2 y3 y4 y5 y6 y7 y8)) ∧ (∀ y0 y1 y2 y3 y4 y5 y6, LeO (laws_FnOn.l0 k y0 y1 y2 y3 y4 y5 y6) (laws_FnOn.l0 (k + 1) y0 y1 y2 y3 y4 y5 y6))
  | 0 => ⟨fun _ _ _ _ _ _ _ _ _ r h => by simp [laws_FnOn.j0] at h, fun _ _ _ _ _ _ _ r h => by simp [laws_FnOn.l0] at h⟩
  | k + 1 => by
    obtain ⟨ih0, ih1⟩ := laws_FnOn.mono_l k
    refine ⟨?_, ?_⟩ <;> intros <;> (first | unfold laws_FnOn.j0 | unfold laws_FnOn.l0) <;> (repeat' first
      | (with_reducible exact ih0 _ _ _ _ _ _ _ _ _)
      | (with_reducible exact ih1 _ _ _ _ _ _ _)
      | (with_reducible exact impl_FormValue.mono _ _ _)
      | (with_reducible exact impl_MoveOn.mono _ _ _ _ _)
      | (with_reducible exact laws_sameInts.mono _ _ _)
      | (with_reducible exact spec_DrawMoveOn.mono _ _)
      | (with_reducible exact spec_MoveOn.mono _ _ _ _ _)
      | (with_reducible exact LeO.refl _)
      | (with_reducible exact LeO.none _)
      | (with_reducible refine LeO.ite ?_ ?_)
      | (with_reducible refine LeO.bind ?_ (fun _ => ?_))
      | exact ih0 _ _ _ _ _ _ _ _ _
      | exact ih1 _ _ _ _ _ _ _
      | exact impl_FormValue.mono _ _ _
      | exact impl_MoveOn.mono _ _ _ _ _
      | exact laws_sameInts.mono _ _ _
      | exact spec_DrawMoveOn.mono _ _
      | exact spec_MoveOn.mono _ _ _ _ _
      | exact LeO.none _
      | refine LeO.ite ?_ ?_
      | refine LeO.bind ?_ (fun _ => ?_))
theorem laws_FnOn.mono : ∀ a0 k, LeO (laws_FnOn.f k a0) (laws_FnOn.f (k + 1) a0) := by
  intro a0 k
  obtain ⟨ih0, ih1⟩ := laws_FnOn.mono_l k
  unfold laws_FnOn.f
  repeat' first
      | (with_reducible exact ih0 _ _ _ _ _ _ _ _ _)
      | (with_reducible exact ih1 _ _ _ _ _ _ _)
      | (with_reducible exact impl_FormValue.mono _ _ _)
      | (with_reducible exact impl_MoveOn.mono _ _ _ _ _)
      | (with_reducible exact laws_sameInts.mono _ _ _)
      | (with_reducible exact spec_DrawMoveOn.mono _ _)
      | (with_reducible exact spec_MoveOn.mono _ _ _ _ _)
      | (with_reducible exact LeO.refl _)
      | (with_reducible exact LeO.none _)
      | (with_reducible refine LeO.ite ?_ ?_)
      | (with_reducible refine LeO.bind ?_ (fun _ => ?_))
      | exact ih0 _ _ _ _ _ _ _ _ _
      | exact ih1 _ _ _ _ _ _ _
      | exact impl_FormValue.mono _ _ _
      | exact impl_MoveOn.mono _ _ _ _ _
      | exact laws_sameInts.mono _ _ _
      | exact spec_DrawMoveOn.mono _ _
      | exact spec_MoveOn.mono _ _ _ _ _
      | exact LeO.none _
      | refine LeO.ite ?_ ?_
      | refine LeO.bind ?_ (fun _ => ?_)
set_option maxHeartbeats 8000000 in
set_option maxRecDepth 100000 in
theorem laws_FnOn.calls (k : Nat) (A0 : Option Addr) (c0 : Nat) (l0 : List Int) (r : Bool) (w : World) (hr0 : Kd.C (Kd.int .u8) w A0 l0.length l0) (hc0 : l0.length ≤ c0) (h : laws_FnOn.f k l0 = some r) :
    Calls Try.prog 4 #[.slice A0 l0.length c0] w fun e w' => e = .returned (.bool r) ∧ Below w.heap.size w w' := by
  have hu27 := Try.underlying27; have HR0 := Aside0.mk hr0; have HC0 := Aside0.mk hc0; clear hr0 hc0; have HB := Aside0.mk (Below.refl w.heap.size w); unfold laws_FnOn.f at h; have H := h; clear h
  by_cases c2 : (l0.length : Int) > 1048576
  · rw [if_pos c2] at H
    have c2b0 : decide (1048576 < (l0.length : Int)) = true := decide_eq_true c2; have c2b1 : decide (1048576 < l0.length) = true := decide_eq_true (by omega); clear c2; obtain rfl := Option.some.inj H; go_enter Try.func4, Try.ntmps4
    go_wp2
    repeat (go_quiet (fail); try go_wp2)
    go_ret
    exact ⟨eR, BU⟩
  · rw [if_neg c2] at H
    have c2b0 : decide (1048576 < (l0.length : Int)) = false := decide_eq_false c2; have c2b1 : decide (1048576 < l0.length) = false := decide_eq_false (by omega); clear c2; obtain ⟨⟨t435, t438, t441, t442⟩, A3, H⟩ := bnd H
    replace H : ((impl_MoveOn.f k t435 t438 t441 t442).bind fun bt446 => ((spec_MoveOn.f k t435 t438 t441 t442).bind fun bt451 => (if (bt446.2.2 != bt451.2.2) = true then (laws_FnOn.j0 k t435 t442 bt446.1 bt446.2.1 bt446.2.2 bt451.1 bt451.2.1 bt451.2.2 true) else ((laws_sameInts.f k bt446.1 bt451.1).bind fun t456 => (if t456 = true then (if bt446.2.1 = bt451.2.1 then (laws_FnOn.j0 k t435 t442 bt446.1 bt446.2.1 bt446.2.2 bt451.1 bt451.2.1 bt451.2.2 (!bt446.2.2)) else (laws_FnOn.j0 k t435 t442 bt446.1 bt446.2.1 bt446.2.2 bt451.1 bt451.2.1 bt451.2.2 true)) else (laws_FnOn.j0 k t435 t442 bt446.1 bt446.2.1 bt446.2.2 bt451.1 bt451.2.1 bt451.2.2 true)))))) = some r := H
    obtain ⟨⟨t446, t449, t450⟩, A4, H⟩ := bnd H
    replace H : ((spec_MoveOn.f k t435 t438 t441 t442).bind fun bt451 => (if (t450 != bt451.2.2) = true then (laws_FnOn.j0 k t435 t442 t446 t449 t450 bt451.1 bt451.2.1 bt451.2.2 true) else ((laws_sameInts.f k t446 bt451.1).bind fun t456 => (if t456 = true then (if t449 = bt451.2.1 then (laws_FnOn.j0 k t435 t442 t446 t449 t450 bt451.1 bt451.2.1 bt451.2.2 (!t450)) else (laws_FnOn.j0 k t435 t442 t446 t449 t450 bt451.1 bt451.2.1 bt451.2.2 true)) else (laws_FnOn.j0 k t435 t442 t446 t449 t450 bt451.1 bt451.2.1 bt451.2.2 true))))) = some r := H
    obtain ⟨⟨t451, t454, t455⟩, A5, H⟩ := bnd H
    replace H : (if (t450 != t455) = true then (laws_FnOn.j0 k t435 t442 t446 t449 t450 t451 t454 t455 true) else ((laws_sameInts.f k t446 t451).bind fun t456 => (if t456 = true then (if t449 = t454 then (laws_FnOn.j0 k t435 t442 t446 t449 t450 t451 t454 t455 (!t450)) else (laws_FnOn.j0 k t435 t442 t446 t449 t450 t451 t454 t455 true)) else (laws_FnOn.j0 k t435 t442 t446 t449 t450 t451 t454 t455 true)))) = some r := H
    have HC6 := Aside0.mk H; clear H; go_enter Try.func4, Try.ntmps4
    go_upto_region 6 with (first | (go_at_call 22; (with_reducible refine (spec_DrawMoveOn.calls k _ _ l0 t435 t438 t441 t442 _ ?side1 ?side2 A3.out).mono ?_); (case side1 => exact U HR0.out); (case side2 => exact HC0.out); rintro e w7 ⟨v436, v439, v443, rfl, ho0, ho1, ho2, hb⟩; have HO437 := Aside0.mk (Kd.Q_lower ho0 (below_size BU)); have HO440 := Aside0.mk (Kd.S_lower ho1 (below_size BU)); have HO444 := Aside0.mk (Kd.R_lower ho2 (below_size BU)); replace HB := BS hb; (try clear hb); (try clear ho0); (try clear ho1); (try clear ho2)) | ((with_reducible refine gate_dst (N := 4) rfl ?_); refine boxE (N := 4) (cs := #[.slice none 0 0, .int .i64 0]) (t := 27) ?_; intro gb445 hg w8 hbox hb; replace HO437 := Aside0.mk (Kd.Q_below (U HO437.out) hb); replace HO440 := Aside0.mk (Kd.S_below (U HO440.out) hb); replace HO444 := Aside0.mk (Kd.R_below (U HO444.out) hb); have BK445 := Aside0.mk (hbox); have GW445 := GS w hg; have GE445 := GS w hg; replace HB := BS hb; clear hb hbox hg; obtain ⟨Ao9, co9, eo9⟩ := Kd.S_slice HO440.out; subst eo9; obtain ⟨hcz10_0, hcz10_1, hfz10_0, hfz10_1⟩ := bcf BK445; obtain ⟨Ao11, co11, eo11, _⟩ := Kd.Q_slice HO437.out; subst eo11; obtain ⟨Ao12, co12, eo12⟩ := Kd.R_slice HO444.out; subst eo12) | (go_at_call 23; (with_reducible refine (impl_MoveOn.calls k _ _ t435 _ _ t438 t441 _ _ t442 t446 t449 t450 _ ?side1 ?side2 ?side3 ?side4 ?side5 ?side6 A4.out).mono ?_); (case side1 => refine (Kd.Q_reads' (e := 3) (base := w.heap.size) (ok := fun k_ => some k_ ≠ (.slice Ao12 t442.length co12 : Value).ownBlock) (n := t435.length) (c := co11) ?_).2.2; exact (Kd.QM (Kd.Q_far (p := ⟨gb445, 1, none⟩) (Kd.Q_far (p := ⟨gb445, 0, none⟩) (Kd.Q_types HO437.out BK445.out (by decide)) (fun _ hk => hk.2) (.slice Ao9 t438.length co9)) (fun _ hk => hk.2) (.int .i64 t441)) (fun _ h_ => h_.1))); (case side2 => exact (Kd.Q_reads' HO437.out).2.1); (case side3 => refine (Kd.S_reads' (e := 23) (base := w.heap.size) (ok := fun k_ => (some k_ ≠ (.slice Ao11 t435.length co11 : Value).ownBlock ∧ some k_ ≠ (.slice Ao12 t442.length co12 : Value).ownBlock)) (n := t438.length) (c := co9) ?_).2.2; exact (Kd.SM (Kd.S_far (p := ⟨gb445, 1, none⟩) (Kd.S_far (p := ⟨gb445, 0, none⟩) (Kd.S_types HO440.out BK445.out (by decide)) (fun _ hk => hk.2) (.slice Ao9 t438.length co9)) (fun _ hk => hk.2) (.int .i64 t441)) (fun _ h_ => h_.1))); (case side4 => exact (Kd.S_reads' HO440.out).2.1); (case side5 => refine (Kd.R_reads' (e := 3) (base := w.heap.size) (ok := fun k_ => some k_ ≠ (.slice Ao11 t435.length co11 : Value).ownBlock) (n := t442.length) (c := co12) ?_).2.2; exact (Kd.RM (Kd.R_far (p := ⟨gb445, 1, none⟩) (Kd.R_far (p := ⟨gb445, 0, none⟩) (Kd.R_types HO444.out BK445.out (by decide)) (fun _ hk => hk.2) (.slice Ao9 t438.length co9)) (fun _ hk => hk.2) (.int .i64 t441)) (fun _ h_ => h_.1))); (case side6 => exact (Kd.R_reads' HO444.out).2.1); rintro e w13 ⟨v447, rfl, ho0, hb⟩; replace HO440 := Aside0.mk (Kd.S_elder' (Kd.SM (Kd.S_far (p := ⟨gb445, 1, none⟩) (Kd.S_far (p := ⟨gb445, 0, none⟩) (Kd.S_types HO440.out BK445.out (by decide)) (fun _ hk => hk.2) (.slice Ao9 t438.length co9)) (fun _ hk => hk.2) (.int .i64 t441)) (fun _ h_ => h_.1)) (Kd.R_base ho0) hb); have HO448 := Aside0.mk (Kd.R_lower (Kd.R_new' (Kd.R_new' ho0 (Kd.Q_lt (Kd.QM (Kd.Q_far (p := ⟨gb445, 1, none⟩) (Kd.Q_far (p := ⟨gb445, 0, none⟩) (Kd.Q_types HO437.out BK445.out (by decide)) (fun _ hk => hk.2) (.slice Ao9 t438.length co9)) (fun _ hk => hk.2) (.int .i64 t441)) (fun _ h_ => h_.1)))) (Kd.R_lt (Kd.RM (Kd.R_far (p := ⟨gb445, 1, none⟩) (Kd.R_far (p := ⟨gb445, 0, none⟩) (Kd.R_types HO444.out BK445.out (by decide)) (fun _ hk => hk.2) (.slice Ao9 t438.length co9)) (fun _ hk => hk.2) (.int .i64 t441)) (fun _ h_ => h_.1)))) (below_size BU)); replace HO437 := Aside0.mk (Kd.Q_elder' (Kd.QM (Kd.Q_far (p := ⟨gb445, 1, none⟩) (Kd.Q_far (p := ⟨gb445, 0, none⟩) (Kd.Q_types HO437.out BK445.out (by decide)) (fun _ hk => hk.2) (.slice Ao9 t438.length co9)) (fun _ hk => hk.2) (.int .i64 t441)) (fun _ h_ => h_.1)) (Kd.R_base ho0) hb); replace HO444 := Aside0.mk (Kd.R_elder' (Kd.RM (Kd.R_far (p := ⟨gb445, 1, none⟩) (Kd.R_far (p := ⟨gb445, 0, none⟩) (Kd.R_types HO444.out BK445.out (by decide)) (fun _ hk => hk.2) (.slice Ao9 t438.length co9)) (fun _ hk => hk.2) (.int .i64 t441)) (fun _ h_ => h_.1)) (Kd.R_base ho0) hb); replace BK445 := Aside0.mk (blk_below (g := gb445) (o := .cells #[.slice Ao9 t438.length co9, .int .i64 t441] 27 (0, 0)) (by (with_reducible repeat (first | refine blk_drewN ?_ _ | refine blk_drew ?_ | refine blk_alloc ?_ _)); refine blk_put (cs := #[.slice Ao9 t438.length co9, .int .i64 0]) ?_ 1 _ rfl; (with_reducible repeat (first | refine blk_drewN ?_ _ | refine blk_drew ?_ | refine blk_alloc ?_ _)); refine blk_put (cs := #[.slice none 0 0, .int .i64 0]) ?_ 0 _ rfl; (with_reducible repeat (first | refine blk_drewN ?_ _ | refine blk_drew ?_ | refine blk_alloc ?_ _)); exact BK445.out) hb); replace HB := BS hb; (try clear hb); (try clear ho0); obtain ⟨hcz14_0, hcz14_1, hfz14_0, hfz14_1⟩ := bcf BK445) | (go_at_call 24; (with_reducible refine (spec_MoveOn.calls k _ _ t435 _ _ t438 t441 _ _ t442 t451 t454 t455 _ ?side1 ?side2 ?side3 ?side4 ?side5 ?side6 A5.out).mono ?_); (case side1 => exact U ((Kd.Q_reads' HO437.out).2.2)); (case side2 => exact (Kd.Q_reads' HO437.out).2.1); (case side3 => exact U ((Kd.S_reads' HO440.out).2.2)); (case side4 => exact (Kd.S_reads' HO440.out).2.1); (case side5 => exact U ((Kd.R_reads' HO444.out).2.2)); (case side6 => exact (Kd.R_reads' HO444.out).2.1); rintro e w15 ⟨v452, rfl, ho0, hb⟩; have HO453 := Aside0.mk (Kd.V_lower (Kd.V_mono (ok' := fun k_ => some k_ ≠ (.slice Ao11 t435.length co11 : Value).ownBlock ∧ some k_ ≠ (.slice Ao9 t438.length co9 : Value).ownBlock ∧ some k_ ≠ (.slice Ao12 t442.length co12 : Value).ownBlock ∧ some k_ ≠ (v447 : Value).ownBlock ∧ k_ ≠ gb445) ho0 (fun k_ hk_ => ⟨(Kd.fresh' (Kd.Q_lt (U HO437.out)) k_ hk_), (Kd.fresh' (Kd.S_lt (U HO440.out)) k_ hk_), (Kd.fresh' (Kd.R_lt (U HO444.out)) k_ hk_), (Kd.fresh' (Kd.R_lt (U HO448.out)) k_ hk_), (Kd.freshB (g := gb445) (o := .cells #[.slice Ao9 t438.length co9, .int .i64 t441] 27 (0, 0)) (U BK445.out) k_ hk_)⟩)) (below_size BU)); replace HO437 := Aside0.mk (Kd.Q_below (U HO437.out) hb); replace HO440 := Aside0.mk (Kd.S_below (U HO440.out) hb); replace HO444 := Aside0.mk (Kd.R_below (U HO444.out) hb); replace HO448 := Aside0.mk (Kd.R_below (U HO448.out) hb); replace BK445 := bB BK445 hb; replace HB := BS hb; (try clear hb); (try clear ho0)))
    repeat (go_quiet (first | (go_at_call 22; (with_reducible refine (spec_DrawMoveOn.calls k _ _ l0 t435 t438 t441 t442 _ ?side1 ?side2 A3.out).mono ?_); (case side1 => exact U HR0.out); (case side2 => exact HC0.out); rintro e w7 ⟨v436, v439, v443, rfl, ho0, ho1, ho2, hb⟩; have HO437 := Aside0.mk (Kd.Q_lower ho0 (below_size BU)); have HO440 := Aside0.mk (Kd.S_lower ho1 (below_size BU)); have HO444 := Aside0.mk (Kd.R_lower ho2 (below_size BU)); replace HB := BS hb; (try clear hb); (try clear ho0); (try clear ho1); (try clear ho2)) | ((with_reducible refine gate_dst (N := 4) rfl ?_); refine boxE (N := 4) (cs := #[.slice none 0 0, .int .i64 0]) (t := 27) ?_; intro gb445 hg w8 hbox hb; replace HO437 := Aside0.mk (Kd.Q_below (U HO437.out) hb); replace HO440 := Aside0.mk (Kd.S_below (U HO440.out) hb); replace HO444 := Aside0.mk (Kd.R_below (U HO444.out) hb); have BK445 := Aside0.mk (hbox); have GW445 := GS w hg; have GE445 := GS w hg; replace HB := BS hb; clear hb hbox hg; obtain ⟨Ao9, co9, eo9⟩ := Kd.S_slice HO440.out; subst eo9; obtain ⟨hcz10_0, hcz10_1, hfz10_0, hfz10_1⟩ := bcf BK445; obtain ⟨Ao11, co11, eo11, _⟩ := Kd.Q_slice HO437.out; subst eo11; obtain ⟨Ao12, co12, eo12⟩ := Kd.R_slice HO444.out; subst eo12) | (go_at_call 23; (with_reducible refine (impl_MoveOn.calls k _ _ t435 _ _ t438 t441 _ _ t442 t446 t449 t450 _ ?side1 ?side2 ?side3 ?side4 ?side5 ?side6 A4.out).mono ?_); (case side1 => refine (Kd.Q_reads' (e := 3) (base := w.heap.size) (ok := fun k_ => some k_ ≠ (.slice Ao12 t442.length co12 : Value).ownBlock) (n := t435.length) (c := co11) ?_).2.2; exact (Kd.QM (Kd.Q_far (p := ⟨gb445, 1, none⟩) (Kd.Q_far (p := ⟨gb445, 0, none⟩) (Kd.Q_types HO437.out BK445.out (by decide)) (fun _ hk => hk.2) (.slice Ao9 t438.length co9)) (fun _ hk => hk.2) (.int .i64 t441)) (fun _ h_ => h_.1))); (case side2 => exact (Kd.Q_reads' HO437.out).2.1); (case side3 => refine (Kd.S_reads' (e := 23) (base := w.heap.size) (ok := fun k_ => (some k_ ≠ (.slice Ao11 t435.length co11 : Value).ownBlock ∧ some k_ ≠ (.slice Ao12 t442.length co12 : Value).ownBlock)) (n := t438.length) (c := co9) ?_).2.2; exact (Kd.SM (Kd.S_far (p := ⟨gb445, 1, none⟩) (Kd.S_far (p := ⟨gb445, 0, none⟩) (Kd.S_types HO440.out BK445.out (by decide)) (fun _ hk => hk.2) (.slice Ao9 t438.length co9)) (fun _ hk => hk.2) (.int .i64 t441)) (fun _ h_ => h_.1))); (case side4 => exact (Kd.S_reads' HO440.out).2.1); (case side5 => refine (Kd.R_reads' (e := 3) (base := w.heap.size) (ok := fun k_ => some k_ ≠ (.slice Ao11 t435.length co11 : Value).ownBlock) (n := t442.length) (c := co12) ?_).2.2; exact (Kd.RM (Kd.R_far (p := ⟨gb445, 1, none⟩) (Kd.R_far (p := ⟨gb445, 0, none⟩) (Kd.R_types HO444.out BK445.out (by decide)) (fun _ hk => hk.2) (.slice Ao9 t438.length co9)) (fun _ hk => hk.2) (.int .i64 t441)) (fun _ h_ => h_.1))); (case side6 => exact (Kd.R_reads' HO444.out).2.1); rintro e w13 ⟨v447, rfl, ho0, hb⟩; replace HO440 := Aside0.mk (Kd.S_elder' (Kd.SM (Kd.S_far (p := ⟨gb445, 1, none⟩) (Kd.S_far (p := ⟨gb445, 0, none⟩) (Kd.S_types HO440.out BK445.out (by decide)) (fun _ hk => hk.2) (.slice Ao9 t438.length co9)) (fun _ hk => hk.2) (.int .i64 t441)) (fun _ h_ => h_.1)) (Kd.R_base ho0) hb); have HO448 := Aside0.mk (Kd.R_lower (Kd.R_new' (Kd.R_new' ho0 (Kd.Q_lt (Kd.QM (Kd.Q_far (p := ⟨gb445, 1, none⟩) (Kd.Q_far (p := ⟨gb445, 0, none⟩) (Kd.Q_types HO437.out BK445.out (by decide)) (fun _ hk => hk.2) (.slice Ao9 t438.length co9)) (fun _ hk => hk.2) (.int .i64 t441)) (fun _ h_ => h_.1)))) (Kd.R_lt (Kd.RM (Kd.R_far (p := ⟨gb445, 1, none⟩) (Kd.R_far (p := ⟨gb445, 0, none⟩) (Kd.R_types HO444.out BK445.out (by decide)) (fun _ hk => hk.2) (.slice Ao9 t438.length co9)) (fun _ hk => hk.2) (.int .i64 t441)) (fun _ h_ => h_.1)))) (below_size BU)); replace HO437 := Aside0.mk (Kd.Q_elder' (Kd.QM (Kd.Q_far (p := ⟨gb445, 1, none⟩) (Kd.Q_far (p := ⟨gb445, 0, none⟩) (Kd.Q_types HO437.out BK445.out (by decide)) (fun _ hk => hk.2) (.slice Ao9 t438.length co9)) (fun _ hk => hk.2) (.int .i64 t441)) (fun _ h_ => h_.1)) (Kd.R_base ho0) hb); replace HO444 := Aside0.mk (Kd.R_elder' (Kd.RM (Kd.R_far (p := ⟨gb445, 1, none⟩) (Kd.R_far (p := ⟨gb445, 0, none⟩) (Kd.R_types HO444.out BK445.out (by decide)) (fun _ hk => hk.2) (.slice Ao9 t438.length co9)) (fun _ hk => hk.2) (.int .i64 t441)) (fun _ h_ => h_.1)) (Kd.R_base ho0) hb); replace BK445 := Aside0.mk (blk_below (g := gb445) (o := .cells #[.slice Ao9 t438.length co9, .int .i64 t441] 27 (0, 0)) (by (with_reducible repeat (first | refine blk_drewN ?_ _ | refine blk_drew ?_ | refine blk_alloc ?_ _)); refine blk_put (cs := #[.slice Ao9 t438.length co9, .int .i64 0]) ?_ 1 _ rfl; (with_reducible repeat (first | refine blk_drewN ?_ _ | refine blk_drew ?_ | refine blk_alloc ?_ _)); refine blk_put (cs := #[.slice none 0 0, .int .i64 0]) ?_ 0 _ rfl; (with_reducible repeat (first | refine blk_drewN ?_ _ | refine blk_drew ?_ | refine blk_alloc ?_ _)); exact BK445.out) hb); replace HB := BS hb; (try clear hb); (try clear ho0); obtain ⟨hcz14_0, hcz14_1, hfz14_0, hfz14_1⟩ := bcf BK445) | (go_at_call 24; (with_reducible refine (spec_MoveOn.calls k _ _ t435 _ _ t438 t441 _ _ t442 t451 t454 t455 _ ?side1 ?side2 ?side3 ?side4 ?side5 ?side6 A5.out).mono ?_); (case side1 => exact U ((Kd.Q_reads' HO437.out).2.2)); (case side2 => exact (Kd.Q_reads' HO437.out).2.1); (case side3 => exact U ((Kd.S_reads' HO440.out).2.2)); (case side4 => exact (Kd.S_reads' HO440.out).2.1); (case side5 => exact U ((Kd.R_reads' HO444.out).2.2)); (case side6 => exact (Kd.R_reads' HO444.out).2.1); rintro e w15 ⟨v452, rfl, ho0, hb⟩; have HO453 := Aside0.mk (Kd.V_lower (Kd.V_mono (ok' := fun k_ => some k_ ≠ (.slice Ao11 t435.length co11 : Value).ownBlock ∧ some k_ ≠ (.slice Ao9 t438.length co9 : Value).ownBlock ∧ some k_ ≠ (.slice Ao12 t442.length co12 : Value).ownBlock ∧ some k_ ≠ (v447 : Value).ownBlock ∧ k_ ≠ gb445) ho0 (fun k_ hk_ => ⟨(Kd.fresh' (Kd.Q_lt (U HO437.out)) k_ hk_), (Kd.fresh' (Kd.S_lt (U HO440.out)) k_ hk_), (Kd.fresh' (Kd.R_lt (U HO444.out)) k_ hk_), (Kd.fresh' (Kd.R_lt (U HO448.out)) k_ hk_), (Kd.freshB (g := gb445) (o := .cells #[.slice Ao9 t438.length co9, .int .i64 t441] 27 (0, 0)) (U BK445.out) k_ hk_)⟩)) (below_size BU)); replace HO437 := Aside0.mk (Kd.Q_below (U HO437.out) hb); replace HO440 := Aside0.mk (Kd.S_below (U HO440.out) hb); replace HO444 := Aside0.mk (Kd.R_below (U HO444.out) hb); replace HO448 := Aside0.mk (Kd.R_below (U HO448.out) hb); replace BK445 := bB BK445 hb; replace HB := BS hb; (try clear hb); (try clear ho0))); go_upto_region 6 with (first | (go_at_call 22; (with_reducible refine (spec_DrawMoveOn.calls k _ _ l0 t435 t438 t441 t442 _ ?side1 ?side2 A3.out).mono ?_); (case side1 => exact U HR0.out); (case side2 => exact HC0.out); rintro e w7 ⟨v436, v439, v443, rfl, ho0, ho1, ho2, hb⟩; have HO437 := Aside0.mk (Kd.Q_lower ho0 (below_size BU)); have HO440 := Aside0.mk (Kd.S_lower ho1 (below_size BU)); have HO444 := Aside0.mk (Kd.R_lower ho2 (below_size BU)); replace HB := BS hb; (try clear hb); (try clear ho0); (try clear ho1); (try clear ho2)) | ((with_reducible refine gate_dst (N := 4) rfl ?_); refine boxE (N := 4) (cs := #[.slice none 0 0, .int .i64 0]) (t := 27) ?_; intro gb445 hg w8 hbox hb; replace HO437 := Aside0.mk (Kd.Q_below (U HO437.out) hb); replace HO440 := Aside0.mk (Kd.S_below (U HO440.out) hb); replace HO444 := Aside0.mk (Kd.R_below (U HO444.out) hb); have BK445 := Aside0.mk (hbox); have GW445 := GS w hg; have GE445 := GS w hg; replace HB := BS hb; clear hb hbox hg; obtain ⟨Ao9, co9, eo9⟩ := Kd.S_slice HO440.out; subst eo9; obtain ⟨hcz10_0, hcz10_1, hfz10_0, hfz10_1⟩ := bcf BK445; obtain ⟨Ao11, co11, eo11, _⟩ := Kd.Q_slice HO437.out; subst eo11; obtain ⟨Ao12, co12, eo12⟩ := Kd.R_slice HO444.out; subst eo12) | (go_at_call 23; (with_reducible refine (impl_MoveOn.calls k _ _ t435 _ _ t438 t441 _ _ t442 t446 t449 t450 _ ?side1 ?side2 ?side3 ?side4 ?side5 ?side6 A4.out).mono ?_); (case side1 => refine (Kd.Q_reads' (e := 3) (base := w.heap.size) (ok := fun k_ => some k_ ≠ (.slice Ao12 t442.length co12 : Value).ownBlock) (n := t435.length) (c := co11) ?_).2.2; exact (Kd.QM (Kd.Q_far (p := ⟨gb445, 1, none⟩) (Kd.Q_far (p := ⟨gb445, 0, none⟩) (Kd.Q_types HO437.out BK445.out (by decide)) (fun _ hk => hk.2) (.slice Ao9 t438.length co9)) (fun _ hk => hk.2) (.int .i64 t441)) (fun _ h_ => h_.1))); (case side2 => exact (Kd.Q_reads' HO437.out).2.1); (case side3 => refine (Kd.S_reads' (e := 23) (base := w.heap.size) (ok := fun k_ => (some k_ ≠ (.slice Ao11 t435.length co11 : Value).ownBlock ∧ some k_ ≠ (.slice Ao12 t442.length co12 : Value).ownBlock)) (n := t438.length) (c := co9) ?_).2.2; exact (Kd.SM (Kd.S_far (p := ⟨gb445, 1, none⟩) (Kd.S_far (p := ⟨gb445, 0, none⟩) (Kd.S_types HO440.out BK445.out (by decide)) (fun _ hk => hk.2) (.slice Ao9 t438.length co9)) (fun _ hk => hk.2) (.int .i64 t441)) (fun _ h_ => h_.1))); (case side4 => exact (Kd.S_reads' HO440.out).2.1); (case side5 => refine (Kd.R_reads' (e := 3) (base := w.heap.size) (ok := fun k_ => some k_ ≠ (.slice Ao11 t435.length co11 : Value).ownBlock) (n := t442.length) (c := co12) ?_).2.2; exact (Kd.RM (Kd.R_far (p := ⟨gb445, 1, none⟩) (Kd.R_far (p := ⟨gb445, 0, none⟩) (Kd.R_types HO444.out BK445.out (by decide)) (fun _ hk => hk.2) (.slice Ao9 t438.length co9)) (fun _ hk => hk.2) (.int .i64 t441)) (fun _ h_ => h_.1))); (case side6 => exact (Kd.R_reads' HO444.out).2.1); rintro e w13 ⟨v447, rfl, ho0, hb⟩; replace HO440 := Aside0.mk (Kd.S_elder' (Kd.SM (Kd.S_far (p := ⟨gb445, 1, none⟩) (Kd.S_far (p := ⟨gb445, 0, none⟩) (Kd.S_types HO440.out BK445.out (by decide)) (fun _ hk => hk.2) (.slice Ao9 t438.length co9)) (fun _ hk => hk.2) (.int .i64 t441)) (fun _ h_ => h_.1)) (Kd.R_base ho0) hb); have HO448 := Aside0.mk (Kd.R_lower (Kd.R_new' (Kd.R_new' ho0 (Kd.Q_lt (Kd.QM (Kd.Q_far (p := ⟨gb445, 1, none⟩) (Kd.Q_far (p := ⟨gb445, 0, none⟩) (Kd.Q_types HO437.out BK445.out (by decide)) (fun _ hk => hk.2) (.slice Ao9 t438.length co9)) (fun _ hk => hk.2) (.int .i64 t441)) (fun _ h_ => h_.1)))) (Kd.R_lt (Kd.RM (Kd.R_far (p := ⟨gb445, 1, none⟩) (Kd.R_far (p := ⟨gb445, 0, none⟩) (Kd.R_types HO444.out BK445.out (by decide)) (fun _ hk => hk.2) (.slice Ao9 t438.length co9)) (fun _ hk => hk.2) (.int .i64 t441)) (fun _ h_ => h_.1)))) (below_size BU)); replace HO437 := Aside0.mk (Kd.Q_elder' (Kd.QM (Kd.Q_far (p := ⟨gb445, 1, none⟩) (Kd.Q_far (p := ⟨gb445, 0, none⟩) (Kd.Q_types HO437.out BK445.out (by decide)) (fun _ hk => hk.2) (.slice Ao9 t438.length co9)) (fun _ hk => hk.2) (.int .i64 t441)) (fun _ h_ => h_.1)) (Kd.R_base ho0) hb); replace HO444 := Aside0.mk (Kd.R_elder' (Kd.RM (Kd.R_far (p := ⟨gb445, 1, none⟩) (Kd.R_far (p := ⟨gb445, 0, none⟩) (Kd.R_types HO444.out BK445.out (by decide)) (fun _ hk => hk.2) (.slice Ao9 t438.length co9)) (fun _ hk => hk.2) (.int .i64 t441)) (fun _ h_ => h_.1)) (Kd.R_base ho0) hb); replace BK445 := Aside0.mk (blk_below (g := gb445) (o := .cells #[.slice Ao9 t438.length co9, .int .i64 t441] 27 (0, 0)) (by (with_reducible repeat (first | refine blk_drewN ?_ _ | refine blk_drew ?_ | refine blk_alloc ?_ _)); refine blk_put (cs := #[.slice Ao9 t438.length co9, .int .i64 0]) ?_ 1 _ rfl; (with_reducible repeat (first | refine blk_drewN ?_ _ | refine blk_drew ?_ | refine blk_alloc ?_ _)); refine blk_put (cs := #[.slice none 0 0, .int .i64 0]) ?_ 0 _ rfl; (with_reducible repeat (first | refine blk_drewN ?_ _ | refine blk_drew ?_ | refine blk_alloc ?_ _)); exact BK445.out) hb); replace HB := BS hb; (try clear hb); (try clear ho0); obtain ⟨hcz14_0, hcz14_1, hfz14_0, hfz14_1⟩ := bcf BK445) | (go_at_call 24; (with_reducible refine (spec_MoveOn.calls k _ _ t435 _ _ t438 t441 _ _ t442 t451 t454 t455 _ ?side1 ?side2 ?side3 ?side4 ?side5 ?side6 A5.out).mono ?_); (case side1 => exact U ((Kd.Q_reads' HO437.out).2.2)); (case side2 => exact (Kd.Q_reads' HO437.out).2.1); (case side3 => exact U ((Kd.S_reads' HO440.out).2.2)); (case side4 => exact (Kd.S_reads' HO440.out).2.1); (case side5 => exact U ((Kd.R_reads' HO444.out).2.2)); (case side6 => exact (Kd.R_reads' HO444.out).2.1); rintro e w15 ⟨v452, rfl, ho0, hb⟩; have HO453 := Aside0.mk (Kd.V_lower (Kd.V_mono (ok' := fun k_ => some k_ ≠ (.slice Ao11 t435.length co11 : Value).ownBlock ∧ some k_ ≠ (.slice Ao9 t438.length co9 : Value).ownBlock ∧ some k_ ≠ (.slice Ao12 t442.length co12 : Value).ownBlock ∧ some k_ ≠ (v447 : Value).ownBlock ∧ k_ ≠ gb445) ho0 (fun k_ hk_ => ⟨(Kd.fresh' (Kd.Q_lt (U HO437.out)) k_ hk_), (Kd.fresh' (Kd.S_lt (U HO440.out)) k_ hk_), (Kd.fresh' (Kd.R_lt (U HO444.out)) k_ hk_), (Kd.fresh' (Kd.R_lt (U HO448.out)) k_ hk_), (Kd.freshB (g := gb445) (o := .cells #[.slice Ao9 t438.length co9, .int .i64 t441] 27 (0, 0)) (U BK445.out) k_ hk_)⟩)) (below_size BU)); replace HO437 := Aside0.mk (Kd.Q_below (U HO437.out) hb); replace HO440 := Aside0.mk (Kd.S_below (U HO440.out) hb); replace HO444 := Aside0.mk (Kd.R_below (U HO444.out) hb); replace HO448 := Aside0.mk (Kd.R_below (U HO448.out) hb); replace BK445 := bB BK445 hb; replace HB := BS hb; (try clear hb); (try clear ho0))))
    (try simp only [Act.put, List.setIfInBounds_toArray, List.set_cons_zero, List.set_cons_succ])
    go_cut [58] (fun v58 wc => ∃ (kq : Nat) (x58_5 : Bool), v58 = .bool x58_5 ∧ Aside0 (laws_FnOn.j0 kq t435 t442 t446 t449 t450 t451 t454 t455 x58_5 = some r) ∧ Aside0 (kq ≤ k) ∧ Aside0 (Kd.Q (Kd.int .i64) 3 wc w.heap.size (fun k_ => some k_ ≠ ((.slice Ao12 t442.length co12) : Value).ownBlock ∧ some k_ ≠ (v447 : Value).ownBlock) (.slice Ao11 t435.length co11) t435) ∧ Aside0 (Kd.R (Kd.int .i64) 3 wc w.heap.size (fun k_ => some k_ ≠ ((.slice Ao11 t435.length co11) : Value).ownBlock ∧ some k_ ≠ (v447 : Value).ownBlock) (.slice Ao12 t442.length co12) t442) ∧ Aside0 (Kd.R (Kd.int .i64) 3 wc w.heap.size (fun k_ => some k_ ≠ ((.slice Ao11 t435.length co11) : Value).ownBlock ∧ some k_ ≠ ((.slice Ao12 t442.length co12) : Value).ownBlock) v447 t446) ∧ Aside0 (Kd.V (Kd.int .i64) 3 wc w.heap.size (fun k_ => some k_ ≠ ((.slice Ao11 t435.length co11) : Value).ownBlock ∧ some k_ ≠ ((.slice Ao12 t442.length co12) : Value).ownBlock ∧ some k_ ≠ (v447 : Value).ownBlock ∧ some k_ ≠ ((.slice Ao9 t438.length co9) : Value).ownBlock ∧ k_ ≠ gb445) v452 t451) ∧ Aside0 (Kd.S (Kd.slice 3 (Kd.int .i64)) 23 wc w.heap.size (fun k_ => some k_ ≠ ((.slice Ao11 t435.length co11) : Value).ownBlock ∧ some k_ ≠ ((.slice Ao12 t442.length co12) : Value).ownBlock ∧ some k_ ≠ (v447 : Value).ownBlock) (.slice Ao9 t438.length co9) t438) ∧ Aside0 (wc.heap[gb445]? = some (.cells #[(.slice Ao9 t438.length co9), .int .i64 t441] 27 (0, 0))) ∧ Aside0 (Below w.heap.size w wc))
    case first =>
      have H := HC6.out; clear HC6
      by_cases c16 : (t450 != t455) = true
      · rw [if_pos c16] at H
        have c16b0 : (t450 != t455) = true := c16
        (try (have c16b1 : decide (t450 = t455) = false := by simpa using c16))
        (try (have c16b2 : (t450 == t455) = false := by simpa using c16))
        (try (have c16b3 : ¬ (t450 = t455) := by simpa using c16))
        clear c16
        (first | rw [c16b0] | (simp only [i64_w, i32_w]; rw [c16b0]) | skip)
        have H' := Aside0.mk H; clear H
        go_wp2
        repeat (go_quiet (fail); try go_wp2)
        go_meet
        case rel => exact ⟨_, (true), sR, H', ⟨oR⟩, ⟨U HO437.out⟩, ⟨U HO444.out⟩, ⟨Kd.RM HO448.out (fun _ hk => ⟨hk.1.2, hk.2⟩)⟩, ⟨Kd.VM HO453.out (fun _ hk => ⟨hk.1, ⟨hk.2.2.1, ⟨hk.2.2.2.1, ⟨hk.2.1, hk.2.2.2.2⟩⟩⟩⟩)⟩, ⟨Kd.SM HO440.out (fun _ hk => ⟨hk.1.1, ⟨hk.1.2, hk.2⟩⟩)⟩, ⟨U BK445.out⟩, ⟨BU⟩⟩
      · rw [if_neg c16] at H
        have c16b0 : (t450 != t455) = false := by simpa using c16
        (try (have c16b1 : decide (t450 = t455) = true := by simpa using c16))
        (try (have c16b2 : (t450 == t455) = true := by simpa using c16))
        clear c16
        (first | rw [c16b0] | (simp only [i64_w, i32_w]; rw [c16b0]) | skip)
        obtain ⟨t456, A17, H⟩ := bnd H
        by_cases c18 : t456 = true
        · subst c18
          replace H := ifT H
          by_cases c19 : t449 = t454
          · rw [if_pos c19] at H
            have c19b0 : (t449 == t454) = true := beq_iff_eq.mpr c19; have c19b1 : (t449 != t454) = false := bne_eq_false_iff_eq.mpr c19; clear c19; have H' := Aside0.mk H; clear H; obtain ⟨Ao20, co20, eo20⟩ := Kd.R_slice HO448.out; subst eo20; obtain ⟨Ao21, co21, eo21⟩ := Kd.V_slice HO453.out; subst eo21
            go_wp2_with (first | (go_at_call 25; (with_reducible refine (laws_sameInts.calls k _ _ t446 _ _ t451 true _ ?side1 ?side2 ?side3 ?side4 A17.out).mono ?_); (case side1 => exact U ((Kd.R_reads' HO448.out).2.2)); (case side2 => exact (Kd.R_reads' HO448.out).2.1); (case side3 => exact U ((Kd.V_reads' HO453.out).2.2)); (case side4 => exact (Kd.V_reads' HO453.out).2.1); rintro e w' ⟨rfl, ⟨nd, rfl⟩⟩; (try first | exact ⟨rfl, _, World.drewN_drewN _ _ _⟩ | exact ⟨rfl, _, Eq.trans (World.drewN_drewN _ _ _) (congrArg (World.drewN _) (Nat.add_assoc _ _ _))⟩)))
            repeat (go_quiet (first | (go_at_call 25; (with_reducible refine (laws_sameInts.calls k _ _ t446 _ _ t451 true _ ?side1 ?side2 ?side3 ?side4 A17.out).mono ?_); (case side1 => exact U ((Kd.R_reads' HO448.out).2.2)); (case side2 => exact (Kd.R_reads' HO448.out).2.1); (case side3 => exact U ((Kd.V_reads' HO453.out).2.2)); (case side4 => exact (Kd.V_reads' HO453.out).2.1); rintro e w' ⟨rfl, ⟨nd, rfl⟩⟩; (try first | exact ⟨rfl, _, World.drewN_drewN _ _ _⟩ | exact ⟨rfl, _, Eq.trans (World.drewN_drewN _ _ _) (congrArg (World.drewN _) (Nat.add_assoc _ _ _))⟩))); try go_wp2_with (first | (go_at_call 25; (with_reducible refine (laws_sameInts.calls k _ _ t446 _ _ t451 true _ ?side1 ?side2 ?side3 ?side4 A17.out).mono ?_); (case side1 => exact U ((Kd.R_reads' HO448.out).2.2)); (case side2 => exact (Kd.R_reads' HO448.out).2.1); (case side3 => exact U ((Kd.V_reads' HO453.out).2.2)); (case side4 => exact (Kd.V_reads' HO453.out).2.1); rintro e w' ⟨rfl, ⟨nd, rfl⟩⟩; (try first | exact ⟨rfl, _, World.drewN_drewN _ _ _⟩ | exact ⟨rfl, _, Eq.trans (World.drewN_drewN _ _ _) (congrArg (World.drewN _) (Nat.add_assoc _ _ _))⟩))))
            go_meet
            case rel => exact ⟨_, (!t450), sR, H', ⟨oR⟩, ⟨U HO437.out⟩, ⟨U HO444.out⟩, ⟨Kd.RM HO448.out (fun _ hk => ⟨hk.1.2, hk.2⟩)⟩, ⟨Kd.VM HO453.out (fun _ hk => ⟨hk.1, ⟨hk.2.2.1, ⟨hk.2.2.2.1, ⟨hk.2.1, hk.2.2.2.2⟩⟩⟩⟩)⟩, ⟨Kd.SM HO440.out (fun _ hk => ⟨hk.1.1, ⟨hk.1.2, hk.2⟩⟩)⟩, ⟨U BK445.out⟩, ⟨BU⟩⟩
          · rw [if_neg c19] at H
            have c19b0 : (t449 == t454) = false := beq_eq_false_iff_ne.mpr c19; have c19b1 : (t449 != t454) = true := bne_iff_ne.mpr c19; have H' := Aside0.mk H; clear H; obtain ⟨Ao22, co22, eo22⟩ := Kd.R_slice HO448.out; subst eo22; obtain ⟨Ao23, co23, eo23⟩ := Kd.V_slice HO453.out; subst eo23
            go_wp2_with (first | (go_at_call 25; (with_reducible refine (laws_sameInts.calls k _ _ t446 _ _ t451 true _ ?side1 ?side2 ?side3 ?side4 A17.out).mono ?_); (case side1 => exact U ((Kd.R_reads' HO448.out).2.2)); (case side2 => exact (Kd.R_reads' HO448.out).2.1); (case side3 => exact U ((Kd.V_reads' HO453.out).2.2)); (case side4 => exact (Kd.V_reads' HO453.out).2.1); rintro e w' ⟨rfl, ⟨nd, rfl⟩⟩; (try first | exact ⟨rfl, _, World.drewN_drewN _ _ _⟩ | exact ⟨rfl, _, Eq.trans (World.drewN_drewN _ _ _) (congrArg (World.drewN _) (Nat.add_assoc _ _ _))⟩)))
            repeat (go_quiet (first | (go_at_call 25; (with_reducible refine (laws_sameInts.calls k _ _ t446 _ _ t451 true _ ?side1 ?side2 ?side3 ?side4 A17.out).mono ?_); (case side1 => exact U ((Kd.R_reads' HO448.out).2.2)); (case side2 => exact (Kd.R_reads' HO448.out).2.1); (case side3 => exact U ((Kd.V_reads' HO453.out).2.2)); (case side4 => exact (Kd.V_reads' HO453.out).2.1); rintro e w' ⟨rfl, ⟨nd, rfl⟩⟩; (try first | exact ⟨rfl, _, World.drewN_drewN _ _ _⟩ | exact ⟨rfl, _, Eq.trans (World.drewN_drewN _ _ _) (congrArg (World.drewN _) (Nat.add_assoc _ _ _))⟩))); try go_wp2_with (first | (go_at_call 25; (with_reducible refine (laws_sameInts.calls k _ _ t446 _ _ t451 true _ ?side1 ?side2 ?side3 ?side4 A17.out).mono ?_); (case side1 => exact U ((Kd.R_reads' HO448.out).2.2)); (case side2 => exact (Kd.R_reads' HO448.out).2.1); (case side3 => exact U ((Kd.V_reads' HO453.out).2.2)); (case side4 => exact (Kd.V_reads' HO453.out).2.1); rintro e w' ⟨rfl, ⟨nd, rfl⟩⟩; (try first | exact ⟨rfl, _, World.drewN_drewN _ _ _⟩ | exact ⟨rfl, _, Eq.trans (World.drewN_drewN _ _ _) (congrArg (World.drewN _) (Nat.add_assoc _ _ _))⟩))))
            go_meet
            case rel => exact ⟨_, (true), sR, H', ⟨oR⟩, ⟨U HO437.out⟩, ⟨U HO444.out⟩, ⟨Kd.RM HO448.out (fun _ hk => ⟨hk.1.2, hk.2⟩)⟩, ⟨Kd.VM HO453.out (fun _ hk => ⟨hk.1, ⟨hk.2.2.1, ⟨hk.2.2.2.1, ⟨hk.2.1, hk.2.2.2.2⟩⟩⟩⟩)⟩, ⟨Kd.SM HO440.out (fun _ hk => ⟨hk.1.1, ⟨hk.1.2, hk.2⟩⟩)⟩, ⟨U BK445.out⟩, ⟨BU⟩⟩
        · replace c18 := Bool.eq_false_iff.mpr c18
          subst c18; replace H := ifF H; have H' := Aside0.mk H; clear H; obtain ⟨Ao24, co24, eo24⟩ := Kd.R_slice HO448.out; subst eo24; obtain ⟨Ao25, co25, eo25⟩ := Kd.V_slice HO453.out; subst eo25
          go_wp2_with (first | (go_at_call 25; (with_reducible refine (laws_sameInts.calls k _ _ t446 _ _ t451 false _ ?side1 ?side2 ?side3 ?side4 A17.out).mono ?_); (case side1 => exact U ((Kd.R_reads' HO448.out).2.2)); (case side2 => exact (Kd.R_reads' HO448.out).2.1); (case side3 => exact U ((Kd.V_reads' HO453.out).2.2)); (case side4 => exact (Kd.V_reads' HO453.out).2.1); rintro e w' ⟨rfl, ⟨nd, rfl⟩⟩; (try first | exact ⟨rfl, _, World.drewN_drewN _ _ _⟩ | exact ⟨rfl, _, Eq.trans (World.drewN_drewN _ _ _) (congrArg (World.drewN _) (Nat.add_assoc _ _ _))⟩)))
          repeat (go_quiet (first | (go_at_call 25; (with_reducible refine (laws_sameInts.calls k _ _ t446 _ _ t451 false _ ?side1 ?side2 ?side3 ?side4 A17.out).mono ?_); (case side1 => exact U ((Kd.R_reads' HO448.out).2.2)); (case side2 => exact (Kd.R_reads' HO448.out).2.1); (case side3 => exact U ((Kd.V_reads' HO453.out).2.2)); (case side4 => exact (Kd.V_reads' HO453.out).2.1); rintro e w' ⟨rfl, ⟨nd, rfl⟩⟩; (try first | exact ⟨rfl, _, World.drewN_drewN _ _ _⟩ | exact ⟨rfl, _, Eq.trans (World.drewN_drewN _ _ _) (congrArg (World.drewN _) (Nat.add_assoc _ _ _))⟩))); try go_wp2_with (first | (go_at_call 25; (with_reducible refine (laws_sameInts.calls k _ _ t446 _ _ t451 false _ ?side1 ?side2 ?side3 ?side4 A17.out).mono ?_); (case side1 => exact U ((Kd.R_reads' HO448.out).2.2)); (case side2 => exact (Kd.R_reads' HO448.out).2.1); (case side3 => exact U ((Kd.V_reads' HO453.out).2.2)); (case side4 => exact (Kd.V_reads' HO453.out).2.1); rintro e w' ⟨rfl, ⟨nd, rfl⟩⟩; (try first | exact ⟨rfl, _, World.drewN_drewN _ _ _⟩ | exact ⟨rfl, _, Eq.trans (World.drewN_drewN _ _ _) (congrArg (World.drewN _) (Nat.add_assoc _ _ _))⟩))))
          go_meet
          case rel => exact ⟨_, (true), sR, H', ⟨oR⟩, ⟨U HO437.out⟩, ⟨U HO444.out⟩, ⟨Kd.RM HO448.out (fun _ hk => ⟨hk.1.2, hk.2⟩)⟩, ⟨Kd.VM HO453.out (fun _ hk => ⟨hk.1, ⟨hk.2.2.1, ⟨hk.2.2.2.1, ⟨hk.2.1, hk.2.2.2.2⟩⟩⟩⟩)⟩, ⟨Kd.SM HO440.out (fun _ hk => ⟨hk.1.1, ⟨hk.1.2, hk.2⟩⟩)⟩, ⟨U BK445.out⟩, ⟨BU⟩⟩
    case rest =>
      clear HC6; (try clear c2); (try clear c2b0); (try clear c2b1); (try clear hcz10_0); (try clear hcz10_1); (try clear hcz14_0); (try clear hcz14_1); (try clear hfz10_0); (try clear hfz10_1); (try clear hfz14_0); (try clear hfz14_1); obtain ⟨kq, x58_5, rfl, HA, HJ5, HO_3, HO_5, HO_6, HO_9, HO_446000, BK445, HB⟩ := hcut; cases kq with
      | zero => exact absurd HA.out (by simp [laws_FnOn.j0])
      | succ kj5 =>
        have H := HA.out; clear HA; simp only [laws_FnOn.j0] at H
        by_cases c26 : x58_5 = true
        · subst c26
          replace H := ifT H
          by_cases c27 : (t450 == t455) = true
          · rw [if_pos c27] at H
            have c27b0 : (t450 == t455) = true := c27
            (try (have c27b1 : decide (t450 = t455) = true := by simpa using c27))
            (try (have c27b2 : (t450 == t455) = true := by simpa using c27))
            clear c27; obtain ⟨t457, A28, H⟩ := bnd H
            by_cases c29 : t457 = true
            · subst c29
              replace H := ifT H; obtain rfl := Option.some.inj H; obtain ⟨Ao30, co30, eo30⟩ := Kd.R_slice HO_6.out; subst eo30; obtain ⟨Ao31, co31, eo31⟩ := Kd.V_slice HO_9.out; subst eo31
              go_wp2_with (first | (go_at_call 25; (with_reducible refine (laws_sameInts.calls kj5 _ _ t446 _ _ t451 true _ ?side1 ?side2 ?side3 ?side4 A28.out).mono ?_); (case side1 => exact U ((Kd.R_reads' HO_6.out).2.2)); (case side2 => exact (Kd.R_reads' HO_6.out).2.1); (case side3 => exact U ((Kd.V_reads' HO_9.out).2.2)); (case side4 => exact (Kd.V_reads' HO_9.out).2.1); rintro e w' ⟨rfl, ⟨nd, rfl⟩⟩; (try first | exact ⟨rfl, _, World.drewN_drewN _ _ _⟩ | exact ⟨rfl, _, Eq.trans (World.drewN_drewN _ _ _) (congrArg (World.drewN _) (Nat.add_assoc _ _ _))⟩)))
              repeat (go_quiet (first | (go_at_call 25; (with_reducible refine (laws_sameInts.calls kj5 _ _ t446 _ _ t451 true _ ?side1 ?side2 ?side3 ?side4 A28.out).mono ?_); (case side1 => exact U ((Kd.R_reads' HO_6.out).2.2)); (case side2 => exact (Kd.R_reads' HO_6.out).2.1); (case side3 => exact U ((Kd.V_reads' HO_9.out).2.2)); (case side4 => exact (Kd.V_reads' HO_9.out).2.1); rintro e w' ⟨rfl, ⟨nd, rfl⟩⟩; (try first | exact ⟨rfl, _, World.drewN_drewN _ _ _⟩ | exact ⟨rfl, _, Eq.trans (World.drewN_drewN _ _ _) (congrArg (World.drewN _) (Nat.add_assoc _ _ _))⟩))); try go_wp2_with (first | (go_at_call 25; (with_reducible refine (laws_sameInts.calls kj5 _ _ t446 _ _ t451 true _ ?side1 ?side2 ?side3 ?side4 A28.out).mono ?_); (case side1 => exact U ((Kd.R_reads' HO_6.out).2.2)); (case side2 => exact (Kd.R_reads' HO_6.out).2.1); (case side3 => exact U ((Kd.V_reads' HO_9.out).2.2)); (case side4 => exact (Kd.V_reads' HO_9.out).2.1); rintro e w' ⟨rfl, ⟨nd, rfl⟩⟩; (try first | exact ⟨rfl, _, World.drewN_drewN _ _ _⟩ | exact ⟨rfl, _, Eq.trans (World.drewN_drewN _ _ _) (congrArg (World.drewN _) (Nat.add_assoc _ _ _))⟩))))
              go_ret
              exact ⟨eR, BU⟩
            · replace c29 := Bool.eq_false_iff.mpr c29
              subst c29; replace H := ifF H
              exact absurd H (by simp)
          · rw [if_neg c27] at H
            exact absurd H (by simp)
        · replace c26 := Bool.eq_false_iff.mpr c26
          subst c26; replace H := ifF H; obtain ⟨⟨t458, t459⟩, A32, H⟩ := bnd H; replace H : (laws_FnOn.l0 kj5 t435 t446 t449 t458 t459 0 0) = some r := H; have H' := Aside0.mk H; clear H
          go_wp2_with (first | (go_at_call 26; (with_reducible refine (impl_FormValue.calls kj5 _ _ t435 _ _ t442 t458 t459 _ ?side1 ?side2 ?side3 ?side4 A32.out).mono ?_); (case side1 => exact U ((Kd.Q_reads' HO_3.out).2.2)); (case side2 => exact (Kd.Q_reads' HO_3.out).2.1); (case side3 => exact U ((Kd.R_reads' HO_5.out).2.2)); (case side4 => exact (Kd.R_reads' HO_5.out).2.1); rintro e w33 ⟨rfl, hb⟩; replace HO_3 := Aside0.mk (Kd.Q_below (U HO_3.out) hb); replace HO_5 := Aside0.mk (Kd.R_below (U HO_5.out) hb); replace HO_6 := Aside0.mk (Kd.R_below (U HO_6.out) hb); replace HO_9 := Aside0.mk (Kd.V_below (U HO_9.out) hb); replace HO_446000 := Aside0.mk (Kd.S_below (U HO_446000.out) hb); replace BK445 := bB BK445 hb; replace HB := BS hb; (try clear hb)))
          repeat (go_quiet (first | (go_at_call 26; (with_reducible refine (impl_FormValue.calls kj5 _ _ t435 _ _ t442 t458 t459 _ ?side1 ?side2 ?side3 ?side4 A32.out).mono ?_); (case side1 => exact U ((Kd.Q_reads' HO_3.out).2.2)); (case side2 => exact (Kd.Q_reads' HO_3.out).2.1); (case side3 => exact U ((Kd.R_reads' HO_5.out).2.2)); (case side4 => exact (Kd.R_reads' HO_5.out).2.1); rintro e w33 ⟨rfl, hb⟩; replace HO_3 := Aside0.mk (Kd.Q_below (U HO_3.out) hb); replace HO_5 := Aside0.mk (Kd.R_below (U HO_5.out) hb); replace HO_6 := Aside0.mk (Kd.R_below (U HO_6.out) hb); replace HO_9 := Aside0.mk (Kd.V_below (U HO_9.out) hb); replace HO_446000 := Aside0.mk (Kd.S_below (U HO_446000.out) hb); replace BK445 := bB BK445 hb; replace HB := BS hb; (try clear hb))); try go_wp2_with (first | (go_at_call 26; (with_reducible refine (impl_FormValue.calls kj5 _ _ t435 _ _ t442 t458 t459 _ ?side1 ?side2 ?side3 ?side4 A32.out).mono ?_); (case side1 => exact U ((Kd.Q_reads' HO_3.out).2.2)); (case side2 => exact (Kd.Q_reads' HO_3.out).2.1); (case side3 => exact U ((Kd.R_reads' HO_5.out).2.2)); (case side4 => exact (Kd.R_reads' HO_5.out).2.1); rintro e w33 ⟨rfl, hb⟩; replace HO_3 := Aside0.mk (Kd.Q_below (U HO_3.out) hb); replace HO_5 := Aside0.mk (Kd.R_below (U HO_5.out) hb); replace HO_6 := Aside0.mk (Kd.R_below (U HO_6.out) hb); replace HO_9 := Aside0.mk (Kd.V_below (U HO_9.out) hb); replace HO_446000 := Aside0.mk (Kd.S_below (U HO_446000.out) hb); replace BK445 := bB BK445 hb; replace HB := BS hb; (try clear hb))))
          go_loopg [14, 15] kj5 (fun kq v14 v15 w' => ∃ (x14_2 : Int) (x15_2 : Int), v14 = .int .i64 x14_2 ∧ v15 = .int .i64 x15_2 ∧ Aside0 (laws_FnOn.l0 kq t435 t446 t449 t458 t459 x14_2 x15_2 = some r) ∧ Aside0 (kq ≤ kj5) ∧ Aside0 (Kd.Q (Kd.int .i64) 3 w' w.heap.size (fun k_ => some k_ ≠ (v447 : Value).ownBlock) (.slice Ao11 t435.length co11) t435) ∧ Aside0 (Kd.R (Kd.int .i64) 3 w' w.heap.size (fun k_ => some k_ ≠ ((.slice Ao11 t435.length co11) : Value).ownBlock) v447 t446) ∧ Aside0 (Kd.S (Kd.slice 3 (Kd.int .i64)) 23 w' w.heap.size (fun k_ => some k_ ≠ ((.slice Ao11 t435.length co11) : Value).ownBlock ∧ some k_ ≠ (v447 : Value).ownBlock) (.slice Ao9 t438.length co9) t438) ∧ Aside0 (w'.heap[gb445]? = some (.cells #[(.slice Ao9 t438.length co9), .int .i64 t441] 27 (0, 0))) ∧ Aside0 (Below w.heap.size w w'))
          case atStart => exact ⟨(0), (0), sR, sR, H', ⟨Nat.le_refl _⟩, ⟨Kd.QM HO_3.out (fun _ hk => hk.2)⟩, ⟨Kd.RM HO_6.out (fun _ hk => hk.1)⟩, ⟨Kd.SM HO_446000.out (fun _ hk => ⟨hk.1, hk.2.2⟩)⟩, ⟨U BK445.out⟩, ⟨BU⟩⟩
          case round =>
            clear H'; (try clear c2); (try clear c2b0); (try clear c2b1); (try clear c26); (try clear hcz10_0); (try clear hcz10_1); (try clear hcz14_0); (try clear hcz14_1); (try clear hfz10_0); (try clear hfz10_1); (try clear hfz14_0); (try clear hfz14_1); obtain ⟨x14_2, x15_2, rfl, rfl, HA, HK2, HO_3, HO_6, HO_446000, BK445, HB⟩ := hrel; cases gk with
            | zero => exact absurd HA.out (by simp [laws_FnOn.l0])
            | succ k2 =>
              have H := HA.out; clear HA; simp only [laws_FnOn.l0] at H
              by_cases c34 : x15_2 < (t435.length : Int)
              · rw [if_pos c34] at H
                have c34b0 : decide (x15_2 < (t435.length : Int)) = true := decide_eq_true c34; clear c34
                by_cases c35 : 0 ≤ x15_2
                · rw [if_pos c35] at H
                  have c35b0 : decide (0 ≤ x15_2) = true := decide_eq_true c35; clear c35
                  by_cases c36 : x15_2 < (t446.length : Int)
                  · rw [if_pos c36] at H
                    have c36b0 : decide (x15_2 < (t446.length : Int)) = true := decide_eq_true c36; clear c36; have H' := Aside0.mk H; clear H; have p460 : 0 ≤ (x15_2 : Int) := oD; have q460 : x15_2 < (t435.length : Int) := oD; obtain ⟨ad460, e460, hx460_0⟩ := Kd.at_int (Kd.Q_reads' HO_3.out).2.2 x15_2 p460 q460; cases e460; replace p460 := eq_true p460; replace q460 := eq_true q460; obtain ⟨Ao37, co37, eo37⟩ := Kd.R_slice HO_6.out; subst eo37; have p461 : 0 ≤ (x15_2 : Int) := oD; have q461 : x15_2 < (t446.length : Int) := oD; obtain ⟨ad461, e461, hx461_0⟩ := Kd.at_int (Kd.R_reads' HO_6.out).2.2 x15_2 p461 q461; cases e461; replace p461 := eq_true p461; replace q461 := eq_true q461; have p462 : 0 ≤ (x15_2 : Int) := oD; have q462 : x15_2 < (t446.length : Int) := oD; obtain ⟨ad462, e462, hx462_0⟩ := Kd.at_int (Kd.R_reads' HO_6.out).2.2 x15_2 p462 q462; obtain rfl : ad461 = ad462 := (by injection e462); replace p462 := eq_true p462; replace q462 := eq_true q462
                    go_wp2
                    repeat (go_quiet (fail); try go_wp2)
                    go_roundg k2
                    case measure => have := HJ5.out; have := HK2.out; omega
                    case rel => exact ⟨(wrap64 (x14_2 + (wrap64 ((wrap64 ((rd t435 x15_2) * (rd t446 x15_2))) * (rd t446 x15_2))))), (wrap64 (x15_2 + 1)), sR, sR, H', ⟨by have := HJ5.out; have := HK2.out; omega⟩, ⟨U HO_3.out⟩, ⟨U HO_6.out⟩, ⟨U HO_446000.out⟩, ⟨U BK445.out⟩, ⟨BU⟩⟩
                  · rw [if_neg c36] at H
                    exact absurd H (by simp)
                · rw [if_neg c35] at H
                  exact absurd H (by simp)
              · rw [if_neg c34] at H
                have c34b0 : decide (x15_2 < (t435.length : Int)) = false := decide_eq_false c34; clear c34
                by_cases c38 : t459 = true
                · subst c38
                  replace H := ifT H
                  by_cases c39 : x14_2 = (wrap64 ((wrap64 (t458 * t449)) * t449))
                  · rw [if_pos c39] at H
                    have c39b0 : (x14_2 == (wrap64 ((wrap64 (t458 * t449)) * t449))) = true := beq_iff_eq.mpr c39; have c39b1 : (x14_2 != (wrap64 ((wrap64 (t458 * t449)) * t449))) = false := bne_eq_false_iff_eq.mpr c39; clear c39; obtain rfl := Option.some.inj H
                    go_wp2
                    repeat (go_quiet (fail); try go_wp2)
                    go_ret
                    exact ⟨eR, BU⟩
                  · rw [if_neg c39] at H
                    exact absurd H (by simp)
                · replace c38 := Bool.eq_false_iff.mpr c38
                  subst c38; replace H := ifF H
                  exact absurd H (by simp)

/-- THE ONE PURE STATEMENT of laws_FnOn: yours. -/
def laws_FnOn.Pure : Prop := ∀ (l0 : List Int), l0.length ≤ maxLen → l0.length * 1 ≤ 140737488351232 → (∀ x ∈ l0, (Lit.int .u8 x).wf = true) → ∃ k, laws_FnOn.f k l0 = some true
theorem laws_FnOn.walk (P : laws_FnOn.Pure) (a0 : Option Addr) (len0 cap0 : Nat) (z0 : List Int) (w : World) (w0 : (a0 = none ∧ len0 = 0 ∧ cap0 = 0 ∧ z0 = []) ∨ ∃ x, a0 = some x ∧ len0 ≤ cap0 ∧ cap0 ≤ maxLen ∧ z0.length = cap0 ∧ (∀ i, i < z0.length → w.cell? (x.add i) = some (.int .u8 (z0.getD i 0))) ∧ ∀ n ∈ z0, (Lit.int .u8 n).wf = true) (y0 : len0 * 1 ≤ 140737488351232) :
    Calls Try.prog 4 #[.slice a0 len0 cap0] w fun e w' => e = .returned (.bool true) ∧ Below w.heap.size w w' := by
  obtain ⟨l0, rfl, hr0, hm0, hw0, hc0⟩ := ReadsInt.ofRowC w0
  obtain ⟨k, h⟩ := P l0 hm0 y0 hw0
  refine (laws_FnOn.calls k _ _ l0 true w (Kd.C_of_reads (d := (0 : Int)) (h1 := fun _ => rfl) hr0) hc0 h).mono ?_
  rintro e w' ⟨rfl, hd⟩
  exact ⟨rfl, hd⟩

end Go.Proofs.Ytnbeeogmaamgdaa.PFnOn
