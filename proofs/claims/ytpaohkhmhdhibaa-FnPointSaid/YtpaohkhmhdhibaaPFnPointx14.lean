-- Written by a program of this session (wip/print2.py): the functions that the law reaches, plain, and the walks.
import Derived.Test.YtpaohkhmhdhibaaPFnPointx0
import Derived.Test.YtpaohkhmhdhibaaPFnPointx8
import Derived.Test.YtpaohkhmhdhibaaPFnPointx10
import Derived.Test.YtpaohkhmhdhibaaPFnPointx11
import Derived.Test.YtpaohkhmhdhibaaPFnPointx12
import Derived.Test.YtpaohkhmhdhibaaPFnPointx13
namespace Go.Proofs.Ytpaohkhmhdhibaa.PFnPoint
open Go.RowKit Go.Proofs.YtpaohkhmhdhibaaW.PrintWords Go.Proofs.YtpaohkhmhdhibaaW.PrintLast Go.Proofs.YtpaohkhmhdhibaaW.PrintMore
attribute [local go_sem] max2_int min2_int max_two min_two max_three min_three max_four min_four   -- for this text's walks alone
set_option linter.unusedVariables false
set_option linter.unusedSimpArgs false

/-! ### laws_sameInts: function 15 -/
def laws_sameInts.l0 : Nat → List Int → List Int → Int → Option (Bool)
  | 0, _, _, _ => none
  | k + 1, x0, x1, x5 => if x5 < (x0.length : Int) then (if 0 ≤ x5 then (if x5 < (x1.length : Int) then (if (rd x0 x5) = (rd x1 x5) then (laws_sameInts.l0 k x0 x1 (wrap64 (x5 + 1))) else (some false)) else (none)) else (none)) else (some true)
def laws_sameInts.f (k : Nat) (l0 : List Int) (l1 : List Int) : Option (Bool) := if (l0.length : Int) = (l1.length : Int) then (laws_sameInts.l0 k l0 l1 0) else (some false)
theorem laws_sameInts.mono_l : ∀ k, (∀ y0 y1 y2, LeO (laws_sameInts.l0 k y0 y1 y2) (laws_sameInts.l0 (k + 1) y0 y1 y2))
  | 0 => fun _ _ _ r h => by simp [laws_sameInts.l0] at h
  | k + 1 => by
    have ih0 := laws_sameInts.mono_l k
    · intro y0 y1 y2
      unfold laws_sameInts.l0
      repeat' first
      | (with_reducible exact ih0 _ _ _)
      | (with_reducible exact LeO.refl _)
      | (with_reducible exact LeO.none _)
      | (with_reducible refine LeO.ite ?_ ?_)
      | (with_reducible refine LeO.bind ?_ (fun _ => ?_))
      | exact ih0 _ _ _
      | exact LeO.none _
      | refine LeO.ite ?_ ?_
      | refine LeO.bind ?_ (fun _ => ?_)
theorem laws_sameInts.mono : ∀ a0 a1 k, LeO (laws_sameInts.f k a0 a1) (laws_sameInts.f (k + 1) a0 a1) := by
  intro a0 a1 k
  have ih0 := laws_sameInts.mono_l k
  unfold laws_sameInts.f
  repeat' first
      | (with_reducible exact ih0 _ _ _)
      | (with_reducible exact LeO.refl _)
      | (with_reducible exact LeO.none _)
      | (with_reducible refine LeO.ite ?_ ?_)
      | (with_reducible refine LeO.bind ?_ (fun _ => ?_))
      | exact ih0 _ _ _
      | exact LeO.none _
      | refine LeO.ite ?_ ?_
      | refine LeO.bind ?_ (fun _ => ?_)
set_option maxHeartbeats 8000000 in
set_option maxRecDepth 100000 in
theorem laws_sameInts.calls (k : Nat) (A0 : Option Addr) (c0 : Nat) (l0 : List Int) (A1 : Option Addr) (c1 : Nat) (l1 : List Int) (r : Bool) (w : World) (hr0 : Kd.C (Kd.int .i64) w A0 l0.length l0) (hc0 : l0.length ≤ c0) (hr1 : Kd.C (Kd.int .i64) w A1 l1.length l1) (hc1 : l1.length ≤ c1) (h : laws_sameInts.f k l0 l1 = some r) :
    Calls Try.prog 15 #[.slice A0 l0.length c0, .slice A1 l1.length c1] w fun e w' => e = .returned (.bool r) ∧ Drawn0 w w' := by
  have HR0 := Aside0.mk hr0; have HC0 := Aside0.mk hc0; clear hr0 hc0; have HR1 := Aside0.mk hr1; have HC1 := Aside0.mk hc1; clear hr1 hc1; unfold laws_sameInts.f at h; have H := h; clear h
  by_cases c3 : (l0.length : Int) = (l1.length : Int)
  · rw [if_pos c3] at H
    have c3b0 : ((l0.length : Int) == (l1.length : Int)) = true := beq_iff_eq.mpr c3; have c3b1 : ((l0.length : Int) != (l1.length : Int)) = false := bne_eq_false_iff_eq.mpr c3
    have c3b2 : (l0.length == l1.length) = true := by first | simpa using c3 | (simp at c3 ⊢; omega)
    clear c3; have H' := Aside0.mk H; clear H; go_enter Try.func15, Try.ntmps15
    go_wp2
    repeat (go_quiet (fail); try go_wp2)
    go_loopg [5] k (fun kq v5 w' => ∃ (x5_1 : Int), v5 = .int .i64 x5_1 ∧ Aside0 (laws_sameInts.l0 kq l0 l1 x5_1 = some r) ∧ Aside0 (kq ≤ k) ∧ Drawn0 w w')
    case atStart => exact ⟨(0), sR, H', ⟨Nat.le_refl _⟩, by repeat (first | exact Drawn0.refl _ | apply Drawn0.step)⟩
    case round =>
      clear H'; (try clear c3); (try clear c3b0); (try clear c3b1); (try clear c3b2); obtain ⟨x5_1, rfl, HA, HK1, ⟨m1, rfl⟩⟩ := hrel; cases gk with
      | zero => exact absurd HA.out (by simp [laws_sameInts.l0])
      | succ k1 =>
        have H := HA.out; clear HA; simp only [laws_sameInts.l0] at H
        by_cases c4 : x5_1 < (l0.length : Int)
        · rw [if_pos c4] at H
          have c4b0 : decide (x5_1 < (l0.length : Int)) = true := decide_eq_true c4; clear c4; obtain ⟨c5, H⟩ := ifN H; have c5b0 : decide (0 ≤ x5_1) = true := decide_eq_true c5; clear c5; obtain ⟨c6, H⟩ := ifN H; have c6b0 : decide (x5_1 < (l1.length : Int)) = true := decide_eq_true c6; clear c6
          by_cases c7 : (rd l0 x5_1) = (rd l1 x5_1)
          · rw [if_pos c7] at H
            have c7b0 : ((rd l0 x5_1) == (rd l1 x5_1)) = true := beq_iff_eq.mpr c7; have c7b1 : ((rd l0 x5_1) != (rd l1 x5_1)) = false := bne_eq_false_iff_eq.mpr c7; clear c7; have H' := Aside0.mk H; clear H; have p505 : 0 ≤ (x5_1 : Int) := oD; have q505 : x5_1 < (l0.length : Int) := oD; obtain ⟨ad505, e505, hx505_0⟩ := Kd.at_int HR0.out x5_1 p505 q505; cases e505; replace p505 := eq_true p505; replace q505 := eq_true q505; have p506 : 0 ≤ (x5_1 : Int) := oD; have q506 : x5_1 < (l1.length : Int) := oD; obtain ⟨ad506, e506, hx506_0⟩ := Kd.at_int HR1.out x5_1 p506 q506; cases e506; replace p506 := eq_true p506; replace q506 := eq_true q506
            go_wp2
            repeat (go_quiet (fail); try go_wp2)
            go_roundg k1
            case measure => have := HK1.out; omega
            case rel => exact ⟨(wrap64 (x5_1 + 1)), sR, H', ⟨by have := HK1.out; omega⟩, by repeat (first | exact Drawn0.refl _ | apply Drawn0.step)⟩
          rw [if_neg c7] at H; have c7b0 : ((rd l0 x5_1) == (rd l1 x5_1)) = false := beq_eq_false_iff_ne.mpr c7; have c7b1 : ((rd l0 x5_1) != (rd l1 x5_1)) = true := bne_iff_ne.mpr c7; obtain rfl := Option.some.inj H; have p505 : 0 ≤ (x5_1 : Int) := oD; have q505 : x5_1 < (l0.length : Int) := oD; obtain ⟨ad505, e505, hx505_0⟩ := Kd.at_int HR0.out x5_1 p505 q505; cases e505; replace p505 := eq_true p505; replace q505 := eq_true q505; have p506 : 0 ≤ (x5_1 : Int) := oD; have q506 : x5_1 < (l1.length : Int) := oD; obtain ⟨ad506, e506, hx506_0⟩ := Kd.at_int HR1.out x5_1 p506 q506; cases e506; replace p506 := eq_true p506; replace q506 := eq_true q506
          go_wp2
          repeat (go_quiet (fail); try go_wp2)
          go_ret
          exact ⟨by first | rfl | (simp; done) | (simp [*]; done), by repeat (first | exact Drawn0.refl _ | apply Drawn0.step)⟩
        rw [if_neg c4] at H; have c4b0 : decide (x5_1 < (l0.length : Int)) = false := decide_eq_false c4; clear c4; obtain rfl := Option.some.inj H
        go_wp2
        repeat (go_quiet (fail); try go_wp2)
        go_ret
        exact ⟨by first | rfl | (simp; done) | (simp [*]; done), by repeat (first | exact Drawn0.refl _ | apply Drawn0.step)⟩
  rw [if_neg c3] at H; have c3b0 : ((l0.length : Int) == (l1.length : Int)) = false := beq_eq_false_iff_ne.mpr c3; have c3b1 : ((l0.length : Int) != (l1.length : Int)) = true := bne_iff_ne.mpr c3
  have c3b2 : (l0.length == l1.length) = false := by first | simpa using c3 | (simp at c3 ⊢; omega)
  obtain rfl := Option.some.inj H; go_enter Try.func15, Try.ntmps15
  go_wp2
  repeat (go_quiet (fail); try go_wp2)
  go_ret
  exact ⟨by first | rfl | (simp; done) | (simp [*]; done), by repeat (first | exact Drawn0.refl _ | apply Drawn0.step)⟩

/-! ### laws_FnPoint: function 3 -/
def laws_FnPoint.j0 : Nat → List Int → List Int → Bool → Bool → Bool → Option (Bool)
  | 0, _, _, _, _, _ => none
  | k + 1, x3, x4, x5, x6, x35 => if x35 = true then (some (x5 == x6)) else ((impl_ConicBack.f k x3 x4 x4).bind fun bt515 => ((impl_ConicAt.f k x3 x4 bt515.1 bt515.2.1).bind fun bt518 => ((laws_sizeOf.f bt515.1).bind fun t522 => (if t522 ≤ 20 then ((laws_sizeOf.f bt515.2.1).bind fun t523 => ((impl_ZeroPlain.f k x3 x4).bind fun bt524 => (if bt515.2.2 = true then (if bt524.2 = true then ((laws_sameInts.f k bt524.1 x4).bind fun t528 => (if t528 = true then (if t523 ≤ 20 then (if bt518.2 = true then ((laws_sameInts.f k bt518.1 x4).bind fun t529 => (if t529 = true then (some true) else (none))) else (none)) else (some (!bt518.2))) else (none))) else (none)) else (none)))) else ((impl_ZeroPlain.f k x3 x4).bind fun bt530 => (if bt515.2.2 = true then (if bt530.2 = true then ((laws_sameInts.f k bt530.1 x4).bind fun t534 => (if t534 = true then (some (!bt518.2)) else (none))) else (none)) else (none)))))))
def laws_FnPoint.f (k : Nat) (l0 : List Int) : Option (Bool) := if (l0.length : Int) > 1048576 then (some true) else ((spec_DrawConicPoint.f k l0).bind fun bt507 => ((impl_ConicPoint.f k bt507.1 bt507.2).bind fun t513 => ((spec_ConicPoint.f k bt507.1 bt507.2).bind fun t514 => (if (t513 != t514) = true then (laws_FnPoint.j0 k bt507.1 bt507.2 t513 t514 true) else (laws_FnPoint.j0 k bt507.1 bt507.2 t513 t514 (!t513))))))
theorem laws_FnPoint.mono_l : ∀ k, (∀ y0 y1 y2 y3 y4, LeO (laws_FnPoint.j0 k y0 y1 y2 y3 y4) (laws_FnPoint.j0 (k + 1) y0 y1 y2 y3 y4))
  | 0 => fun _ _ _ _ _ r h => by simp [laws_FnPoint.j0] at h
  | k + 1 => by
    have ih0 := laws_FnPoint.mono_l k
    · intro y0 y1 y2 y3 y4
      unfold laws_FnPoint.j0
      repeat' first
      | (with_reducible exact ih0 _ _ _ _ _)
      | (with_reducible exact impl_ConicAt.mono _ _ _ _ _)
      | (with_reducible exact impl_ConicBack.mono _ _ _ _)
      | (with_reducible exact impl_ConicPoint.mono _ _ _)
      | (with_reducible exact impl_ZeroPlain.mono _ _ _)
      | (with_reducible exact laws_sameInts.mono _ _ _)
      | (with_reducible exact spec_ConicPoint.mono _ _ _)
      | (with_reducible exact spec_DrawConicPoint.mono _ _)
      | (with_reducible exact LeO.refl _)
      | (with_reducible exact LeO.none _)
      | (with_reducible refine LeO.ite ?_ ?_)
      | (with_reducible refine LeO.bind ?_ (fun _ => ?_))
      | exact ih0 _ _ _ _ _
      | exact impl_ConicAt.mono _ _ _ _ _
      | exact impl_ConicBack.mono _ _ _ _
      | exact impl_ConicPoint.mono _ _ _
      | exact impl_ZeroPlain.mono _ _ _
      | exact laws_sameInts.mono _ _ _
      | exact spec_ConicPoint.mono _ _ _
      | exact spec_DrawConicPoint.mono _ _
      | exact LeO.none _
      | refine LeO.ite ?_ ?_
      | refine LeO.bind ?_ (fun _ => ?_)
theorem laws_FnPoint.mono : ∀ a0 k, LeO (laws_FnPoint.f k a0) (laws_FnPoint.f (k + 1) a0) := by
  intro a0 k
  have ih0 := laws_FnPoint.mono_l k
  unfold laws_FnPoint.f
  repeat' first
      | (with_reducible exact ih0 _ _ _ _ _)
      | (with_reducible exact impl_ConicAt.mono _ _ _ _ _)
      | (with_reducible exact impl_ConicBack.mono _ _ _ _)
      | (with_reducible exact impl_ConicPoint.mono _ _ _)
      | (with_reducible exact impl_ZeroPlain.mono _ _ _)
      | (with_reducible exact laws_sameInts.mono _ _ _)
      | (with_reducible exact spec_ConicPoint.mono _ _ _)
      | (with_reducible exact spec_DrawConicPoint.mono _ _)
      | (with_reducible exact LeO.refl _)
      | (with_reducible exact LeO.none _)
      | (with_reducible refine LeO.ite ?_ ?_)
      | (with_reducible refine LeO.bind ?_ (fun _ => ?_))
      | exact ih0 _ _ _ _ _
      | exact impl_ConicAt.mono _ _ _ _ _
      | exact impl_ConicBack.mono _ _ _ _
      | exact impl_ConicPoint.mono _ _ _
      | exact impl_ZeroPlain.mono _ _ _
      | exact laws_sameInts.mono _ _ _
      | exact spec_ConicPoint.mono _ _ _
      | exact spec_DrawConicPoint.mono _ _
      | exact LeO.none _
      | refine LeO.ite ?_ ?_
      | refine LeO.bind ?_ (fun _ => ?_)
set_option maxHeartbeats 8000000 in
set_option maxRecDepth 100000 in
theorem laws_FnPoint.calls (k : Nat) (A0 : Option Addr) (c0 : Nat) (l0 : List Int) (r : Bool) (w : World) (hr0 : Kd.C (Kd.int .u8) w A0 l0.length l0) (hc0 : l0.length ≤ c0) (h : laws_FnPoint.f k l0 = some r) :
    Calls Try.prog 3 #[.slice A0 l0.length c0] w fun e w' => e = .returned (.bool r) ∧ Below w.heap.size w w' := by
  have HR0 := Aside0.mk hr0; have HC0 := Aside0.mk hc0; clear hr0 hc0; have HB := Aside0.mk (Below.refl w.heap.size w); unfold laws_FnPoint.f at h; have H := h; clear h
  by_cases c2 : (l0.length : Int) > 1048576
  · rw [if_pos c2] at H
    have c2b0 : decide (1048576 < (l0.length : Int)) = true := decide_eq_true c2; have c2b1 : decide (1048576 < l0.length) = true := decide_eq_true (by omega); clear c2; obtain rfl := Option.some.inj H; go_enter Try.func3, Try.ntmps3
    go_wp2
    go_ret
    exact ⟨eR, BU⟩
  · rw [if_neg c2] at H
    have c2b0 : decide (1048576 < (l0.length : Int)) = false := decide_eq_false c2; have c2b1 : decide (1048576 < l0.length) = false := decide_eq_false (by omega); clear c2; obtain ⟨⟨t507, t508⟩, A3, H⟩ := bnd H
    replace H : ((impl_ConicPoint.f k t507 t508).bind fun t513 => ((spec_ConicPoint.f k t507 t508).bind fun t514 => (if (t513 != t514) = true then (laws_FnPoint.j0 k t507 t508 t513 t514 true) else (laws_FnPoint.j0 k t507 t508 t513 t514 (!t513))))) = some r := H
    obtain ⟨t513, A4, H⟩ := bnd H; obtain ⟨t514, A5, H⟩ := bnd H; have HC6 := Aside0.mk H; clear H; go_enter Try.func3, Try.ntmps3
    go_upto_region 6 with (first | ((with_reducible refine gate_callee (f := 8) rfl ?_); refine goesK (some 20) Try.func8 #[.slice A0 l0.length c0] ?_; (with_reducible refine (spec_DrawConicPoint.calls k _ _ l0 t507 t508 _ ?side1 ?side2 A3.out).mono ?_); (case side1 => exact U HR0.out); (case side2 => exact HC0.out); rintro e w7 ⟨v509, v511, rfl, ho0, ho1, hb⟩; refine ⟨_, rfl, ?_⟩; have HO510 := Aside0.mk (Kd.R_lower ho0 (below_size BU)); have HO512 := Aside0.mk (Kd.R_lower ho1 (below_size BU)); replace HB := BS hb; (try clear hb); (try clear ho0); (try clear ho1); obtain ⟨Ao8, co8, eo8⟩ := Kd.R_slice HO510.out; subst eo8; obtain ⟨Ao9, co9, eo9⟩ := Kd.R_slice HO512.out; subst eo9) | ((with_reducible refine gate_callee (f := 9) rfl ?_); refine goesK (some 25) Try.func9 #[.slice Ao8 t507.length co8, .slice Ao9 t508.length co9] ?_; (with_reducible refine (impl_ConicPoint.calls k _ _ t507 _ _ t508 t513 _ ?side1 ?side2 ?side3 ?side4 A4.out).mono ?_); (case side1 => exact U ((Kd.R_reads' HO510.out).2.2)); (case side2 => exact (Kd.R_reads' HO510.out).2.1); (case side3 => exact U ((Kd.R_reads' HO512.out).2.2)); (case side4 => exact (Kd.R_reads' HO512.out).2.1); rintro e w10 ⟨rfl, hb⟩; refine ⟨_, rfl, ?_⟩; replace HO510 := Aside0.mk (Kd.R_below (U HO510.out) hb); replace HO512 := Aside0.mk (Kd.R_below (U HO512.out) hb); replace HB := BS hb; (try clear hb)) | ((with_reducible refine gate_callee (f := 10) rfl ?_); refine goesK (some 28) Try.func10 #[.slice Ao8 t507.length co8, .slice Ao9 t508.length co9] ?_; (with_reducible refine (spec_ConicPoint.calls k _ _ t507 _ _ t508 t514 _ ?side1 ?side2 ?side3 ?side4 A5.out).mono ?_); (case side1 => exact U ((Kd.R_reads' HO510.out).2.2)); (case side2 => exact (Kd.R_reads' HO510.out).2.1); (case side3 => exact U ((Kd.R_reads' HO512.out).2.2)); (case side4 => exact (Kd.R_reads' HO512.out).2.1); rintro e w11 ⟨rfl, hb⟩; refine ⟨_, rfl, ?_⟩; replace HO510 := Aside0.mk (Kd.R_below (U HO510.out) hb); replace HO512 := Aside0.mk (Kd.R_below (U HO512.out) hb); replace HB := BS hb; (try clear hb)))
    (try simp only [Act.put, List.setIfInBounds_toArray, List.set_cons_zero, List.set_cons_succ])
    go_cut [35] (fun v35 wc => ∃ (kq : Nat) (x35_5 : Bool), v35 = .bool x35_5 ∧ Aside0 (laws_FnPoint.j0 kq t507 t508 t513 t514 x35_5 = some r) ∧ Aside0 (kq ≤ k) ∧ Aside0 (Kd.R (Kd.int .i64) 3 wc w.heap.size (fun k_ => some k_ ≠ ((.slice Ao9 t508.length co9) : Value).ownBlock) (.slice Ao8 t507.length co8) t507) ∧ Aside0 (Kd.R (Kd.int .i64) 3 wc w.heap.size (fun k_ => some k_ ≠ ((.slice Ao8 t507.length co8) : Value).ownBlock) (.slice Ao9 t508.length co9) t508) ∧ Aside0 (Below w.heap.size w wc))
    case first =>
      have H := HC6.out; clear HC6
      by_cases c12 : (t513 != t514) = true
      · rw [if_pos c12] at H
        have c12b0 : (t513 != t514) = true := c12
        (try (have c12b1 : decide (t513 = t514) = false := by simpa using c12))
        (try (have c12b2 : (t513 == t514) = false := by simpa using c12))
        (try (have c12b3 : ¬ (t513 = t514) := by simpa using c12))
        clear c12
        (first | rw [c12b0] | (simp only [i64_w, i32_w]; rw [c12b0]) | skip)
        have H' := Aside0.mk H; clear H
        go_wp2
        go_meet
        case rel => exact ⟨_, (true), sR, H', ⟨oR⟩, ⟨U HO510.out⟩, ⟨U HO512.out⟩, ⟨BU⟩⟩
      · rw [if_neg c12] at H
        have c12b0 : (t513 != t514) = false := by simpa using c12
        (try (have c12b1 : decide (t513 = t514) = true := by simpa using c12))
        (try (have c12b2 : (t513 == t514) = true := by simpa using c12))
        clear c12
        (first | rw [c12b0] | (simp only [i64_w, i32_w]; rw [c12b0]) | skip)
        have H' := Aside0.mk H; clear H
        go_wp2
        go_meet
        case rel => exact ⟨_, (!t513), sR, H', ⟨oR⟩, ⟨U HO510.out⟩, ⟨U HO512.out⟩, ⟨BU⟩⟩
    case rest =>
      clear HC6; (try clear c2); (try clear c2b0); (try clear c2b1); obtain ⟨kq, x35_5, rfl, HA, HJ5, HO_3, HO_4, HB⟩ := hcut; cases kq with
      | zero => exact absurd HA.out (by simp [laws_FnPoint.j0])
      | succ kj5 =>
        have H := HA.out; clear HA; simp only [laws_FnPoint.j0] at H
        by_cases c13 : x35_5 = true
        · subst c13
          replace H := ifT H; obtain rfl := Option.some.inj H
          go_wp2
          go_ret
          exact ⟨eR, BU⟩
        · replace c13 := Bool.eq_false_iff.mpr c13
          subst c13; replace H := ifF H; obtain ⟨⟨t515, t516, t517⟩, A14, H⟩ := bnd H
          replace H : ((impl_ConicAt.f kj5 t507 t508 t515 t516).bind fun bt518 => ((laws_sizeOf.f t515).bind fun t522 => (if t522 ≤ 20 then ((laws_sizeOf.f t516).bind fun t523 => ((impl_ZeroPlain.f kj5 t507 t508).bind fun bt524 => (if t517 = true then (if bt524.2 = true then ((laws_sameInts.f kj5 bt524.1 t508).bind fun t528 => (if t528 = true then (if t523 ≤ 20 then (if bt518.2 = true then ((laws_sameInts.f kj5 bt518.1 t508).bind fun t529 => (if t529 = true then (some true) else (none))) else (none)) else (some (!bt518.2))) else (none))) else (none)) else (none)))) else ((impl_ZeroPlain.f kj5 t507 t508).bind fun bt530 => (if t517 = true then (if bt530.2 = true then ((laws_sameInts.f kj5 bt530.1 t508).bind fun t534 => (if t534 = true then (some (!bt518.2)) else (none))) else (none)) else (none)))))) = some r := H
          obtain ⟨⟨t518, t519⟩, A15, H⟩ := bnd H
          replace H : ((laws_sizeOf.f t515).bind fun t522 => (if t522 ≤ 20 then ((laws_sizeOf.f t516).bind fun t523 => ((impl_ZeroPlain.f kj5 t507 t508).bind fun bt524 => (if t517 = true then (if bt524.2 = true then ((laws_sameInts.f kj5 bt524.1 t508).bind fun t528 => (if t528 = true then (if t523 ≤ 20 then (if t519 = true then ((laws_sameInts.f kj5 t518 t508).bind fun t529 => (if t529 = true then (some true) else (none))) else (none)) else (some (!t519))) else (none))) else (none)) else (none)))) else ((impl_ZeroPlain.f kj5 t507 t508).bind fun bt530 => (if t517 = true then (if bt530.2 = true then ((laws_sameInts.f kj5 bt530.1 t508).bind fun t534 => (if t534 = true then (some (!t519)) else (none))) else (none)) else (none))))) = some r := H
          obtain ⟨t522, A16, H⟩ := bnd H
          by_cases c17 : t522 ≤ 20
          · rw [if_pos c17] at H
            have c17b0 : decide (t522 ≤ 20) = true := decide_eq_true c17; clear c17; obtain ⟨t523, A18, H⟩ := bnd H; obtain ⟨⟨t524, t525⟩, A19, H⟩ := bnd H
            replace H : (if t517 = true then (if t525 = true then ((laws_sameInts.f kj5 t524 t508).bind fun t528 => (if t528 = true then (if t523 ≤ 20 then (if t519 = true then ((laws_sameInts.f kj5 t518 t508).bind fun t529 => (if t529 = true then (some true) else (none))) else (none)) else (some (!t519))) else (none))) else (none)) else (none)) = some r := H
            by_cases c20 : t517 = true
            · subst c20
              replace H := ifT H
              by_cases c21 : t525 = true
              · subst c21
                replace H := ifT H; obtain ⟨t528, A22, H⟩ := bnd H
                by_cases c23 : t528 = true
                · subst c23
                  replace H := ifT H
                  by_cases c24 : t523 ≤ 20
                  · rw [if_pos c24] at H
                    have c24b0 : decide (t523 ≤ 20) = true := decide_eq_true c24; clear c24
                    by_cases c25 : t519 = true
                    · subst c25
                      replace H := ifT H; obtain ⟨t529, A26, H⟩ := bnd H
                      by_cases c27 : t529 = true
                      · subst c27
                        replace H := ifT H; obtain rfl := Option.some.inj H
                        go_wp2_with (first | ((with_reducible refine gate_callee (f := 11) rfl ?_); refine goesK (some 43) Try.func11 #[.slice Ao8 t507.length co8, .slice Ao9 t508.length co9, .slice Ao9 t508.length co9] ?_; (with_reducible refine (impl_ConicBack.calls kj5 _ _ t507 _ _ t508 _ _ t508 t515 t516 true _ ?side1 ?side2 ?side3 ?side4 ?side5 ?side6 A14.out).mono ?_); (case side1 => exact U ((Kd.R_reads' HO_3.out).2.2)); (case side2 => exact (Kd.R_reads' HO_3.out).2.1); (case side3 => exact U ((Kd.R_reads' HO_4.out).2.2)); (case side4 => exact (Kd.R_reads' HO_4.out).2.1); (case side5 => exact U ((Kd.R_reads' HO_4.out).2.2)); (case side6 => exact (Kd.R_reads' HO_4.out).2.1); rintro e w28 ⟨rfl, hb⟩; refine ⟨_, rfl, ?_⟩; replace HO_3 := Aside0.mk (Kd.R_below (U HO_3.out) hb); replace HO_4 := Aside0.mk (Kd.R_below (U HO_4.out) hb); replace HB := BS hb; (try clear hb)) | ((with_reducible refine gate_callee (f := 12) rfl ?_); refine goesK (some 52) Try.func12 #[.slice Ao8 t507.length co8, .slice Ao9 t508.length co9, .int .i64 t515, .int .i64 t516] ?_; (with_reducible refine (impl_ConicAt.calls kj5 _ _ t507 _ _ t508 t515 t516 t518 true _ ?side1 ?side2 ?side3 ?side4 A15.out).mono ?_); (case side1 => exact U ((Kd.R_reads' HO_3.out).2.2)); (case side2 => exact (Kd.R_reads' HO_3.out).2.1); (case side3 => exact U ((Kd.R_reads' HO_4.out).2.2)); (case side4 => exact (Kd.R_reads' HO_4.out).2.1); rintro e w29 ⟨v520, rfl, ho0, hb⟩; refine ⟨_, rfl, ?_⟩; have HO521 := Aside0.mk (Kd.R_lower (Kd.R_new' (Kd.R_new' ho0 (Kd.R_lt (U HO_3.out))) (Kd.R_lt (U HO_4.out))) (below_size BU)); replace HO_3 := Aside0.mk (Kd.R_elder' (U HO_3.out) (Kd.R_base ho0) hb); replace HO_4 := Aside0.mk (Kd.R_elder' (U HO_4.out) (Kd.R_base ho0) hb); replace HB := BS hb; (try clear hb); (try clear ho0)) | ((with_reducible refine gate_callee (f := 13) rfl ?_); refine goesK (some 56) Try.func13 #[.int .i64 t515] ?_; (with_reducible refine (laws_sizeOf.calls t515 t522 _ A16.out).mono ?_); rintro e w30 ⟨rfl, hb⟩; refine ⟨_, rfl, ?_⟩; replace HO_3 := Aside0.mk (Kd.R_below (U HO_3.out) hb); replace HO_4 := Aside0.mk (Kd.R_below (U HO_4.out) hb); replace HO521 := Aside0.mk (Kd.R_below (U HO521.out) hb); replace HB := BS hb; (try clear hb)) | (go_at_call 13; (with_reducible refine (laws_sizeOf.calls t516 t523 _ A18.out).mono ?_); rintro e w31 ⟨rfl, hb⟩; replace HO_3 := Aside0.mk (Kd.R_below (U HO_3.out) hb); replace HO_4 := Aside0.mk (Kd.R_below (U HO_4.out) hb); replace HO521 := Aside0.mk (Kd.R_below (U HO521.out) hb); replace HB := BS hb; (try clear hb)) | ((with_reducible refine gate_callee (f := 14) rfl ?_); refine goesK (some 66) Try.func14 #[.slice Ao8 t507.length co8, .slice Ao9 t508.length co9] ?_; (with_reducible refine (impl_ZeroPlain.calls kj5 _ _ t507 _ _ t508 t524 true _ ?side1 ?side2 ?side3 ?side4 A19.out).mono ?_); (case side1 => exact U ((Kd.R_reads' HO_3.out).2.2)); (case side2 => exact (Kd.R_reads' HO_3.out).2.1); (case side3 => exact U ((Kd.R_reads' HO_4.out).2.2)); (case side4 => exact (Kd.R_reads' HO_4.out).2.1); rintro e w32 ⟨v526, rfl, ho0, hb⟩; refine ⟨_, rfl, ?_⟩; have HO527 := Aside0.mk (Kd.R_lower (Kd.R_new' (Kd.R_new' (Kd.R_new' ho0 (Kd.R_lt (U HO_3.out))) (Kd.R_lt (U HO_4.out))) (Kd.R_lt (U HO521.out))) (below_size BU)); replace HO_3 := Aside0.mk (Kd.R_elder' (U HO_3.out) (Kd.R_base ho0) hb); replace HO_4 := Aside0.mk (Kd.R_elder' (U HO_4.out) (Kd.R_base ho0) hb); replace HO521 := Aside0.mk (Kd.R_elder' (U HO521.out) (Kd.R_base ho0) hb); replace HB := BS hb; (try clear hb); (try clear ho0); obtain ⟨Ao33, co33, eo33⟩ := Kd.R_slice HO527.out; subst eo33) | (go_at_call 15; (with_reducible refine (laws_sameInts.calls kj5 _ _ t524 _ _ t508 true _ ?side1 ?side2 ?side3 ?side4 A22.out).mono ?_); (case side1 => exact U ((Kd.R_reads' HO527.out).2.2)); (case side2 => exact (Kd.R_reads' HO527.out).2.1); (case side3 => exact U ((Kd.R_reads' HO_4.out).2.2)); (case side4 => exact (Kd.R_reads' HO_4.out).2.1); rintro e w' ⟨rfl, ⟨nd, rfl⟩⟩; obtain ⟨Ao34, co34, eo34⟩ := Kd.R_slice HO521.out; subst eo34) | (go_at_call 15; (with_reducible refine (laws_sameInts.calls kj5 _ _ t518 _ _ t508 true _ ?side1 ?side2 ?side3 ?side4 A26.out).mono ?_); (case side1 => exact U ((Kd.R_reads' HO521.out).2.2)); (case side2 => exact (Kd.R_reads' HO521.out).2.1); (case side3 => exact U ((Kd.R_reads' HO_4.out).2.2)); (case side4 => exact (Kd.R_reads' HO_4.out).2.1); rintro e w' ⟨rfl, ⟨nd, rfl⟩⟩))
                        go_ret
                        exact ⟨eR, BU⟩
                      · replace c27 := Bool.eq_false_iff.mpr c27
                        subst c27; replace H := ifF H
                        exact absurd H (by simp)
                    · replace c25 := Bool.eq_false_iff.mpr c25
                      subst c25; replace H := ifF H
                      exact absurd H (by simp)
                  · rw [if_neg c24] at H
                    have c24b0 : decide (t523 ≤ 20) = false := decide_eq_false c24; clear c24; obtain rfl := Option.some.inj H
                    go_wp2_with (first | ((with_reducible refine gate_callee (f := 11) rfl ?_); refine goesK (some 43) Try.func11 #[.slice Ao8 t507.length co8, .slice Ao9 t508.length co9, .slice Ao9 t508.length co9] ?_; (with_reducible refine (impl_ConicBack.calls kj5 _ _ t507 _ _ t508 _ _ t508 t515 t516 true _ ?side1 ?side2 ?side3 ?side4 ?side5 ?side6 A14.out).mono ?_); (case side1 => exact U ((Kd.R_reads' HO_3.out).2.2)); (case side2 => exact (Kd.R_reads' HO_3.out).2.1); (case side3 => exact U ((Kd.R_reads' HO_4.out).2.2)); (case side4 => exact (Kd.R_reads' HO_4.out).2.1); (case side5 => exact U ((Kd.R_reads' HO_4.out).2.2)); (case side6 => exact (Kd.R_reads' HO_4.out).2.1); rintro e w35 ⟨rfl, hb⟩; refine ⟨_, rfl, ?_⟩; replace HO_3 := Aside0.mk (Kd.R_below (U HO_3.out) hb); replace HO_4 := Aside0.mk (Kd.R_below (U HO_4.out) hb); replace HB := BS hb; (try clear hb)) | ((with_reducible refine gate_callee (f := 12) rfl ?_); refine goesK (some 52) Try.func12 #[.slice Ao8 t507.length co8, .slice Ao9 t508.length co9, .int .i64 t515, .int .i64 t516] ?_; (with_reducible refine (impl_ConicAt.calls kj5 _ _ t507 _ _ t508 t515 t516 t518 t519 _ ?side1 ?side2 ?side3 ?side4 A15.out).mono ?_); (case side1 => exact U ((Kd.R_reads' HO_3.out).2.2)); (case side2 => exact (Kd.R_reads' HO_3.out).2.1); (case side3 => exact U ((Kd.R_reads' HO_4.out).2.2)); (case side4 => exact (Kd.R_reads' HO_4.out).2.1); rintro e w36 ⟨v520, rfl, ho0, hb⟩; refine ⟨_, rfl, ?_⟩; have HO521 := Aside0.mk (Kd.R_lower (Kd.R_new' (Kd.R_new' ho0 (Kd.R_lt (U HO_3.out))) (Kd.R_lt (U HO_4.out))) (below_size BU)); replace HO_3 := Aside0.mk (Kd.R_elder' (U HO_3.out) (Kd.R_base ho0) hb); replace HO_4 := Aside0.mk (Kd.R_elder' (U HO_4.out) (Kd.R_base ho0) hb); replace HB := BS hb; (try clear hb); (try clear ho0)) | ((with_reducible refine gate_callee (f := 13) rfl ?_); refine goesK (some 56) Try.func13 #[.int .i64 t515] ?_; (with_reducible refine (laws_sizeOf.calls t515 t522 _ A16.out).mono ?_); rintro e w37 ⟨rfl, hb⟩; refine ⟨_, rfl, ?_⟩; replace HO_3 := Aside0.mk (Kd.R_below (U HO_3.out) hb); replace HO_4 := Aside0.mk (Kd.R_below (U HO_4.out) hb); replace HO521 := Aside0.mk (Kd.R_below (U HO521.out) hb); replace HB := BS hb; (try clear hb)) | (go_at_call 13; (with_reducible refine (laws_sizeOf.calls t516 t523 _ A18.out).mono ?_); rintro e w38 ⟨rfl, hb⟩; replace HO_3 := Aside0.mk (Kd.R_below (U HO_3.out) hb); replace HO_4 := Aside0.mk (Kd.R_below (U HO_4.out) hb); replace HO521 := Aside0.mk (Kd.R_below (U HO521.out) hb); replace HB := BS hb; (try clear hb)) | ((with_reducible refine gate_callee (f := 14) rfl ?_); refine goesK (some 66) Try.func14 #[.slice Ao8 t507.length co8, .slice Ao9 t508.length co9] ?_; (with_reducible refine (impl_ZeroPlain.calls kj5 _ _ t507 _ _ t508 t524 true _ ?side1 ?side2 ?side3 ?side4 A19.out).mono ?_); (case side1 => exact U ((Kd.R_reads' HO_3.out).2.2)); (case side2 => exact (Kd.R_reads' HO_3.out).2.1); (case side3 => exact U ((Kd.R_reads' HO_4.out).2.2)); (case side4 => exact (Kd.R_reads' HO_4.out).2.1); rintro e w39 ⟨v526, rfl, ho0, hb⟩; refine ⟨_, rfl, ?_⟩; have HO527 := Aside0.mk (Kd.R_lower (Kd.R_new' (Kd.R_new' (Kd.R_new' ho0 (Kd.R_lt (U HO_3.out))) (Kd.R_lt (U HO_4.out))) (Kd.R_lt (U HO521.out))) (below_size BU)); replace HO_3 := Aside0.mk (Kd.R_elder' (U HO_3.out) (Kd.R_base ho0) hb); replace HO_4 := Aside0.mk (Kd.R_elder' (U HO_4.out) (Kd.R_base ho0) hb); replace HO521 := Aside0.mk (Kd.R_elder' (U HO521.out) (Kd.R_base ho0) hb); replace HB := BS hb; (try clear hb); (try clear ho0); obtain ⟨Ao40, co40, eo40⟩ := Kd.R_slice HO527.out; subst eo40) | (go_at_call 15; (with_reducible refine (laws_sameInts.calls kj5 _ _ t524 _ _ t508 true _ ?side1 ?side2 ?side3 ?side4 A22.out).mono ?_); (case side1 => exact U ((Kd.R_reads' HO527.out).2.2)); (case side2 => exact (Kd.R_reads' HO527.out).2.1); (case side3 => exact U ((Kd.R_reads' HO_4.out).2.2)); (case side4 => exact (Kd.R_reads' HO_4.out).2.1); rintro e w' ⟨rfl, ⟨nd, rfl⟩⟩))
                    go_ret
                    exact ⟨eR, BU⟩
                · replace c23 := Bool.eq_false_iff.mpr c23
                  subst c23; replace H := ifF H
                  exact absurd H (by simp)
              · replace c21 := Bool.eq_false_iff.mpr c21
                subst c21; replace H := ifF H
                exact absurd H (by simp)
            · replace c20 := Bool.eq_false_iff.mpr c20
              subst c20; replace H := ifF H
              exact absurd H (by simp)
          · rw [if_neg c17] at H
            have c17b0 : decide (t522 ≤ 20) = false := decide_eq_false c17; clear c17; obtain ⟨⟨t530, t531⟩, A41, H⟩ := bnd H; replace H : (if t517 = true then (if t531 = true then ((laws_sameInts.f kj5 t530 t508).bind fun t534 => (if t534 = true then (some (!t519)) else (none))) else (none)) else (none)) = some r := H
            by_cases c42 : t517 = true
            · subst c42
              replace H := ifT H
              by_cases c43 : t531 = true
              · subst c43
                replace H := ifT H; obtain ⟨t534, A44, H⟩ := bnd H
                by_cases c45 : t534 = true
                · subst c45
                  replace H := ifT H; obtain rfl := Option.some.inj H
                  go_wp2_with (first | ((with_reducible refine gate_callee (f := 11) rfl ?_); refine goesK (some 43) Try.func11 #[.slice Ao8 t507.length co8, .slice Ao9 t508.length co9, .slice Ao9 t508.length co9] ?_; (with_reducible refine (impl_ConicBack.calls kj5 _ _ t507 _ _ t508 _ _ t508 t515 t516 true _ ?side1 ?side2 ?side3 ?side4 ?side5 ?side6 A14.out).mono ?_); (case side1 => exact U ((Kd.R_reads' HO_3.out).2.2)); (case side2 => exact (Kd.R_reads' HO_3.out).2.1); (case side3 => exact U ((Kd.R_reads' HO_4.out).2.2)); (case side4 => exact (Kd.R_reads' HO_4.out).2.1); (case side5 => exact U ((Kd.R_reads' HO_4.out).2.2)); (case side6 => exact (Kd.R_reads' HO_4.out).2.1); rintro e w46 ⟨rfl, hb⟩; refine ⟨_, rfl, ?_⟩; replace HO_3 := Aside0.mk (Kd.R_below (U HO_3.out) hb); replace HO_4 := Aside0.mk (Kd.R_below (U HO_4.out) hb); replace HB := BS hb; (try clear hb)) | ((with_reducible refine gate_callee (f := 12) rfl ?_); refine goesK (some 52) Try.func12 #[.slice Ao8 t507.length co8, .slice Ao9 t508.length co9, .int .i64 t515, .int .i64 t516] ?_; (with_reducible refine (impl_ConicAt.calls kj5 _ _ t507 _ _ t508 t515 t516 t518 t519 _ ?side1 ?side2 ?side3 ?side4 A15.out).mono ?_); (case side1 => exact U ((Kd.R_reads' HO_3.out).2.2)); (case side2 => exact (Kd.R_reads' HO_3.out).2.1); (case side3 => exact U ((Kd.R_reads' HO_4.out).2.2)); (case side4 => exact (Kd.R_reads' HO_4.out).2.1); rintro e w47 ⟨v520, rfl, ho0, hb⟩; refine ⟨_, rfl, ?_⟩; have HO521 := Aside0.mk (Kd.R_lower (Kd.R_new' (Kd.R_new' ho0 (Kd.R_lt (U HO_3.out))) (Kd.R_lt (U HO_4.out))) (below_size BU)); replace HO_3 := Aside0.mk (Kd.R_elder' (U HO_3.out) (Kd.R_base ho0) hb); replace HO_4 := Aside0.mk (Kd.R_elder' (U HO_4.out) (Kd.R_base ho0) hb); replace HB := BS hb; (try clear hb); (try clear ho0)) | ((with_reducible refine gate_callee (f := 13) rfl ?_); refine goesK (some 56) Try.func13 #[.int .i64 t515] ?_; (with_reducible refine (laws_sizeOf.calls t515 t522 _ A16.out).mono ?_); rintro e w48 ⟨rfl, hb⟩; refine ⟨_, rfl, ?_⟩; replace HO_3 := Aside0.mk (Kd.R_below (U HO_3.out) hb); replace HO_4 := Aside0.mk (Kd.R_below (U HO_4.out) hb); replace HO521 := Aside0.mk (Kd.R_below (U HO521.out) hb); replace HB := BS hb; (try clear hb)) | ((with_reducible refine gate_callee (f := 14) rfl ?_); refine goesK (some 66) Try.func14 #[.slice Ao8 t507.length co8, .slice Ao9 t508.length co9] ?_; (with_reducible refine (impl_ZeroPlain.calls kj5 _ _ t507 _ _ t508 t530 true _ ?side1 ?side2 ?side3 ?side4 A41.out).mono ?_); (case side1 => exact U ((Kd.R_reads' HO_3.out).2.2)); (case side2 => exact (Kd.R_reads' HO_3.out).2.1); (case side3 => exact U ((Kd.R_reads' HO_4.out).2.2)); (case side4 => exact (Kd.R_reads' HO_4.out).2.1); rintro e w49 ⟨v532, rfl, ho0, hb⟩; refine ⟨_, rfl, ?_⟩; have HO533 := Aside0.mk (Kd.R_lower (Kd.R_new' (Kd.R_new' (Kd.R_new' ho0 (Kd.R_lt (U HO_3.out))) (Kd.R_lt (U HO_4.out))) (Kd.R_lt (U HO521.out))) (below_size BU)); replace HO_3 := Aside0.mk (Kd.R_elder' (U HO_3.out) (Kd.R_base ho0) hb); replace HO_4 := Aside0.mk (Kd.R_elder' (U HO_4.out) (Kd.R_base ho0) hb); replace HO521 := Aside0.mk (Kd.R_elder' (U HO521.out) (Kd.R_base ho0) hb); replace HB := BS hb; (try clear hb); (try clear ho0); obtain ⟨Ao50, co50, eo50⟩ := Kd.R_slice HO533.out; subst eo50) | (go_at_call 15; (with_reducible refine (laws_sameInts.calls kj5 _ _ t530 _ _ t508 true _ ?side1 ?side2 ?side3 ?side4 A44.out).mono ?_); (case side1 => exact U ((Kd.R_reads' HO533.out).2.2)); (case side2 => exact (Kd.R_reads' HO533.out).2.1); (case side3 => exact U ((Kd.R_reads' HO_4.out).2.2)); (case side4 => exact (Kd.R_reads' HO_4.out).2.1); rintro e w' ⟨rfl, ⟨nd, rfl⟩⟩))
                  go_ret
                  exact ⟨eR, BU⟩
                · replace c45 := Bool.eq_false_iff.mpr c45
                  subst c45; replace H := ifF H
                  exact absurd H (by simp)
              · replace c43 := Bool.eq_false_iff.mpr c43
                subst c43; replace H := ifF H
                exact absurd H (by simp)
            · replace c42 := Bool.eq_false_iff.mpr c42
              subst c42; replace H := ifF H
              exact absurd H (by simp)

/-- THE ONE PURE STATEMENT of laws_FnPoint: yours. -/
def laws_FnPoint.Pure : Prop := ∀ (l0 : List Int), l0.length ≤ maxLen → l0.length * 1 ≤ 140737488351232 → (∀ x ∈ l0, (Lit.int .u8 x).wf = true) → ∃ k, laws_FnPoint.f k l0 = some true
theorem laws_FnPoint.walk (P : laws_FnPoint.Pure) (a0 : Option Addr) (len0 cap0 : Nat) (z0 : List Int) (w : World) (w0 : (a0 = none ∧ len0 = 0 ∧ cap0 = 0 ∧ z0 = []) ∨ ∃ x, a0 = some x ∧ len0 ≤ cap0 ∧ cap0 ≤ maxLen ∧ z0.length = cap0 ∧ (∀ i, i < z0.length → w.cell? (x.add i) = some (.int .u8 (z0.getD i 0))) ∧ ∀ n ∈ z0, (Lit.int .u8 n).wf = true) (y0 : len0 * 1 ≤ 140737488351232) :
    Calls Try.prog 3 #[.slice a0 len0 cap0] w fun e w' => e = .returned (.bool true) ∧ Below w.heap.size w w' := by
  obtain ⟨l0, rfl, hr0, hm0, hw0, hc0⟩ := ReadsInt.ofRowC w0
  obtain ⟨k, h⟩ := P l0 hm0 y0 hw0
  refine (laws_FnPoint.calls k _ _ l0 true w (Kd.C_of_reads (d := (0 : Int)) (h1 := fun _ => rfl) hr0) hc0 h).mono ?_
  rintro e w' ⟨rfl, hd⟩
  exact ⟨rfl, hd⟩

end Go.Proofs.Ytpaohkhmhdhibaa.PFnPoint
