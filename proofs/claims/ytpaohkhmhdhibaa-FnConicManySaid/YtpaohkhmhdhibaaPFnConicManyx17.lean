-- Written by a program of this session (wip/print2.py): the functions that the law reaches, plain, and the walks.
import Derived.Test.YtpaohkhmhdhibaaPFnConicManyx0
import Derived.Test.YtpaohkhmhdhibaaPFnConicManyx4
import Derived.Test.YtpaohkhmhdhibaaPFnConicManyx12
import Derived.Test.YtpaohkhmhdhibaaPFnConicManyx16
namespace Go.Proofs.Ytpaohkhmhdhibaa.PFnConicMany
open Go.RowKit Go.Proofs.YtpaohkhmhdhibaaW.PrintWords Go.Proofs.YtpaohkhmhdhibaaW.PrintLast Go.Proofs.YtpaohkhmhdhibaaW.PrintMore
attribute [local go_sem] max2_int min2_int max_two min_two max_three min_three max_four min_four   -- for this text's walks alone
set_option linter.unusedVariables false
set_option linter.unusedSimpArgs false

/-! ### laws_FnConicMany: function 7 -/
mutual
def laws_FnConicMany.j0 : Nat → List Int → List Int → Int → Int → Int → Bool → Option (Bool)
  | 0, _, _, _, _, _, _ => none
  | k + 1, x3, x4, x5, x6, x7, x38 => if x38 = true then (some (x6 == x7)) else (laws_FnConicMany.l0 k x3 x4 x5 x6 0 0 0)
def laws_FnConicMany.l0 : Nat → List Int → List Int → Int → Int → Int → Int → Int → Option (Bool)
  | 0, _, _, _, _, _, _, _ => none
  | k + 1, x3, x4, x5, x6, x8, x9, x10 => if x10 ≤ x5 then (laws_FnConicMany.l1 k x3 x4 x5 x6 x8 x9 x10 (wrap64 (-x5))) else ((impl_ConicMany.f k x3 x4 (wrap64 (x5 + 1))).bind fun t564 => (if x6 = x9 then (if x6 ≤ x8 then (if x5 = 5 then (some true) else (some (decide (t564 ≥ x6)))) else (none)) else (none)))
def laws_FnConicMany.l1 : Nat → List Int → List Int → Int → Int → Int → Int → Int → Int → Option (Bool)
  | 0, _, _, _, _, _, _, _, _ => none
  | k + 1, x3, x4, x5, x6, x8, x9, x10, x11 => if x11 ≤ x5 then ((impl_GcdOf.f k x10 x11).bind fun t565 => (if t565 = 1 then (if x10 = 0 then (laws_FnConicMany.j3 k x3 x4 x5 x6 x8 x9 x10 x11 (decide (x11 < 0))) else (laws_FnConicMany.j3 k x3 x4 x5 x6 x8 x9 x10 x11 false)) else (laws_FnConicMany.j3 k x3 x4 x5 x6 x8 x9 x10 x11 true))) else (laws_FnConicMany.l0 k x3 x4 x5 x6 x8 x9 (wrap64 (x10 + 1)))
def laws_FnConicMany.j3 : Nat → List Int → List Int → Int → Int → Int → Int → Int → Int → Bool → Option (Bool)
  | 0, _, _, _, _, _, _, _, _, _ => none
  | k + 1, x3, x4, x5, x6, x8, x9, x10, x11, x65 => if x65 = true then (laws_FnConicMany.l1 k x3 x4 x5 x6 x8 x9 x10 (wrap64 (x11 + 1))) else ((impl_ConicAt.f k x3 x4 x10 x11).bind fun bt566 => (if bt566.2 = true then (laws_FnConicMany.l1 k x3 x4 x5 x6 (wrap64 (x8 + 1)) (wrap64 (x9 + 1)) x10 (wrap64 (x11 + 1))) else (laws_FnConicMany.l1 k x3 x4 x5 x6 (wrap64 (x8 + 1)) x9 x10 (wrap64 (x11 + 1)))))
end
def laws_FnConicMany.f (k : Nat) (l0 : List Int) : Option (Bool) := if (l0.length : Int) > 1048576 then (some true) else ((spec_DrawConicMany.f k l0).bind fun bt555 => ((impl_ConicMany.f k bt555.1 bt555.2.1 bt555.2.2).bind fun t562 => ((spec_ConicMany.f k bt555.1 bt555.2.1 bt555.2.2).bind fun t563 => (if t562 = t563 then (laws_FnConicMany.j0 k bt555.1 bt555.2.1 bt555.2.2 t562 t563 (decide (t562 < 0))) else (laws_FnConicMany.j0 k bt555.1 bt555.2.1 bt555.2.2 t562 t563 true)))))
theorem laws_FnConicMany.mono_l : ∀ k, (∀ y0 y1 y2 y3 y4 y5, LeO (laws_FnConicMany.j0 k y0 y1 y2 y3 y4 y5) (laws_FnConicMany.j0 (k + 1) y0 y1 y2 y3 y4 y5)) ∧ (∀ y0 y1 y2 y3 y4 y5 y6, LeO (laws_FnConicMany.l0 k y0 y1 y2 y3 y4 y5 y6) (laws_FnConicMany.l0 (k + 1) y0 y1 y2 y3 y4 y5 y6)) ∧ (∀ y0 y1 y2 y3 y4 y5 y6 y7, LeO (laws_FnConicMany.l1 k y0 y1 y2 y3 y4 y5 y6 y7) (laws_FnConicMany.l1 (k + 1) y0 y1 y2 y3 y4 y5 y6 y7)) ∧ (∀ y0 y1 y2 y3 y4 y5 y6 y7 y8, LeO (laws_FnConicMany.j3 k y0 y1 y2 y3 y4 y5 y6 y7 y8) (laws_FnConicMany.j3 (k + 1) y0 y1 y2 y3 y4 y5 y6 y7 y8))
  | 0 => ⟨fun _ _ _ _ _ _ r h => by simp [laws_FnConicMany.j0] at h, fun _ _ _ _ _ _ _ r h => by simp [laws_FnConicMany.l0] at h, fun _ _ _ _ _ _ _ _ r h => by simp [laws_FnConicMany.l1] at h, fun _ _ _ _ _ _ _ _ _ r h => by simp [laws_FnConicMany.j3] at h⟩
  | k + 1 => by
    obtain ⟨ih0, ih1, ih2, ih3⟩ := laws_FnConicMany.mono_l k
    refine ⟨?_, ?_, ?_, ?_⟩ <;> intros <;> (first | unfold laws_FnConicMany.j0 | unfold laws_FnConicMany.l0 | unfold laws_FnConicMany.l1 | unfold laws_FnConicMany.j3) <;> (repeat' first
      | (with_reducible exact ih0 _ _ _ _ _ _)
      | (with_reducible exact ih1 _ _ _ _ _ _ _)
      | (with_reducible exact ih2 _ _ _ _ _ _ _ _)
      | (with_reducible exact ih3 _ _ _ _ _ _ _ _ _)
      | (with_reducible exact impl_ConicAt.mono _ _ _ _ _)
      | (with_reducible exact impl_ConicMany.mono _ _ _ _)
      | (with_reducible exact impl_GcdOf.mono _ _ _)
      | (with_reducible exact spec_ConicMany.mono _ _ _ _)
      | (with_reducible exact spec_DrawConicMany.mono _ _)
      | (with_reducible exact LeO.refl _)
      | (with_reducible exact LeO.none _)
      | (with_reducible refine LeO.ite ?_ ?_)
      | (with_reducible refine LeO.bind ?_ (fun _ => ?_))
      | exact ih0 _ _ _ _ _ _
      | exact ih1 _ _ _ _ _ _ _
      | exact ih2 _ _ _ _ _ _ _ _
      | exact ih3 _ _ _ _ _ _ _ _ _
      | exact impl_ConicAt.mono _ _ _ _ _
      | exact impl_ConicMany.mono _ _ _ _
      | exact impl_GcdOf.mono _ _ _
      | exact spec_ConicMany.mono _ _ _ _
      | exact spec_DrawConicMany.mono _ _
      | exact LeO.none _
      | refine LeO.ite ?_ ?_
      | refine LeO.bind ?_ (fun _ => ?_))
theorem laws_FnConicMany.mono : ∀ a0 k, LeO (laws_FnConicMany.f k a0) (laws_FnConicMany.f (k + 1) a0) := by
  intro a0 k
  obtain ⟨ih0, ih1, ih2, ih3⟩ := laws_FnConicMany.mono_l k
  unfold laws_FnConicMany.f
  repeat' first
      | (with_reducible exact ih0 _ _ _ _ _ _)
      | (with_reducible exact ih1 _ _ _ _ _ _ _)
      | (with_reducible exact ih2 _ _ _ _ _ _ _ _)
      | (with_reducible exact ih3 _ _ _ _ _ _ _ _ _)
      | (with_reducible exact impl_ConicAt.mono _ _ _ _ _)
      | (with_reducible exact impl_ConicMany.mono _ _ _ _)
      | (with_reducible exact impl_GcdOf.mono _ _ _)
      | (with_reducible exact spec_ConicMany.mono _ _ _ _)
      | (with_reducible exact spec_DrawConicMany.mono _ _)
      | (with_reducible exact LeO.refl _)
      | (with_reducible exact LeO.none _)
      | (with_reducible refine LeO.ite ?_ ?_)
      | (with_reducible refine LeO.bind ?_ (fun _ => ?_))
      | exact ih0 _ _ _ _ _ _
      | exact ih1 _ _ _ _ _ _ _
      | exact ih2 _ _ _ _ _ _ _ _
      | exact ih3 _ _ _ _ _ _ _ _ _
      | exact impl_ConicAt.mono _ _ _ _ _
      | exact impl_ConicMany.mono _ _ _ _
      | exact impl_GcdOf.mono _ _ _
      | exact spec_ConicMany.mono _ _ _ _
      | exact spec_DrawConicMany.mono _ _
      | exact LeO.none _
      | refine LeO.ite ?_ ?_
      | refine LeO.bind ?_ (fun _ => ?_)
set_option maxHeartbeats 8000000 in
set_option maxRecDepth 100000 in
theorem laws_FnConicMany.calls (k : Nat) (A0 : Option Addr) (c0 : Nat) (l0 : List Int) (r : Bool) (w : World) (hr0 : Kd.C (Kd.int .u8) w A0 l0.length l0) (hc0 : l0.length ≤ c0) (h : laws_FnConicMany.f k l0 = some r) :
    Calls Try.prog 7 #[.slice A0 l0.length c0] w fun e w' => e = .returned (.bool r) ∧ Below w.heap.size w w' := by
  have HR0 := Aside0.mk hr0; have HC0 := Aside0.mk hc0; clear hr0 hc0; have HB := Aside0.mk (Below.refl w.heap.size w); unfold laws_FnConicMany.f at h; have H := h; clear h
  by_cases c2 : (l0.length : Int) > 1048576
  · rw [if_pos c2] at H
    have c2b0 : decide (1048576 < (l0.length : Int)) = true := decide_eq_true c2; have c2b1 : decide (1048576 < l0.length) = true := decide_eq_true (by omega); clear c2; obtain rfl := Option.some.inj H; go_enter Try.func7, Try.ntmps7
    go_wp2
    go_ret
    exact ⟨eR, BU⟩
  · rw [if_neg c2] at H
    have c2b0 : decide (1048576 < (l0.length : Int)) = false := decide_eq_false c2; have c2b1 : decide (1048576 < l0.length) = false := decide_eq_false (by omega); clear c2; obtain ⟨⟨t555, t556, t557⟩, A3, H⟩ := bnd H
    replace H : ((impl_ConicMany.f k t555 t556 t557).bind fun t562 => ((spec_ConicMany.f k t555 t556 t557).bind fun t563 => (if t562 = t563 then (laws_FnConicMany.j0 k t555 t556 t557 t562 t563 (decide (t562 < 0))) else (laws_FnConicMany.j0 k t555 t556 t557 t562 t563 true)))) = some r := H
    obtain ⟨t562, A4, H⟩ := bnd H; obtain ⟨t563, A5, H⟩ := bnd H; have HC6 := Aside0.mk H; clear H; go_enter Try.func7, Try.ntmps7
    go_upto_region 6 with (first | ((with_reducible refine gate_callee (f := 25) rfl ?_); refine goesK (some 20) Try.func25 #[.slice A0 l0.length c0] ?_; (with_reducible refine (spec_DrawConicMany.calls k _ _ l0 t555 t556 t557 _ ?side1 ?side2 A3.out).mono ?_); (case side1 => exact U HR0.out); (case side2 => exact HC0.out); rintro e w7 ⟨v558, v560, rfl, ho0, ho1, hb⟩; refine ⟨_, rfl, ?_⟩; have HO559 := Aside0.mk (Kd.R_lower ho0 (below_size BU)); have HO561 := Aside0.mk (Kd.R_lower ho1 (below_size BU)); replace HB := BS hb; (try clear hb); (try clear ho0); (try clear ho1); obtain ⟨Ao8, co8, eo8⟩ := Kd.R_slice HO559.out; subst eo8; obtain ⟨Ao9, co9, eo9⟩ := Kd.R_slice HO561.out; subst eo9) | ((with_reducible refine gate_callee (f := 26) rfl ?_); refine goesK (some 27) Try.func26 #[.slice Ao8 t555.length co8, .slice Ao9 t556.length co9, .int .i64 t557] ?_; (with_reducible refine (impl_ConicMany.calls k _ _ t555 _ _ t556 t557 t562 _ ?side1 ?side2 ?side3 ?side4 A4.out).mono ?_); (case side1 => exact U ((Kd.R_reads' HO559.out).2.2)); (case side2 => exact (Kd.R_reads' HO559.out).2.1); (case side3 => exact U ((Kd.R_reads' HO561.out).2.2)); (case side4 => exact (Kd.R_reads' HO561.out).2.1); rintro e w10 ⟨rfl, hb⟩; refine ⟨_, rfl, ?_⟩; replace HO559 := Aside0.mk (Kd.R_below (U HO559.out) hb); replace HO561 := Aside0.mk (Kd.R_below (U HO561.out) hb); replace HB := BS hb; (try clear hb)) | ((with_reducible refine gate_callee (f := 27) rfl ?_); refine goesK (some 31) Try.func27 #[.slice Ao8 t555.length co8, .slice Ao9 t556.length co9, .int .i64 t557] ?_; (with_reducible refine (spec_ConicMany.calls k _ _ t555 _ _ t556 t557 t563 _ ?side1 ?side2 ?side3 ?side4 A5.out).mono ?_); (case side1 => exact U ((Kd.R_reads' HO559.out).2.2)); (case side2 => exact (Kd.R_reads' HO559.out).2.1); (case side3 => exact U ((Kd.R_reads' HO561.out).2.2)); (case side4 => exact (Kd.R_reads' HO561.out).2.1); rintro e w11 ⟨rfl, hb⟩; refine ⟨_, rfl, ?_⟩; replace HO559 := Aside0.mk (Kd.R_below (U HO559.out) hb); replace HO561 := Aside0.mk (Kd.R_below (U HO561.out) hb); replace HB := BS hb; (try clear hb)))
    (try simp only [Act.put, List.setIfInBounds_toArray, List.set_cons_zero, List.set_cons_succ])
    go_cut [38] (fun v38 wc => ∃ (kq : Nat) (x38_5 : Bool), v38 = .bool x38_5 ∧ Aside0 (laws_FnConicMany.j0 kq t555 t556 t557 t562 t563 x38_5 = some r) ∧ Aside0 (kq ≤ k) ∧ Aside0 (Kd.R (Kd.int .i64) 3 wc w.heap.size (fun k_ => some k_ ≠ ((.slice Ao9 t556.length co9) : Value).ownBlock) (.slice Ao8 t555.length co8) t555) ∧ Aside0 (Kd.R (Kd.int .i64) 3 wc w.heap.size (fun k_ => some k_ ≠ ((.slice Ao8 t555.length co8) : Value).ownBlock) (.slice Ao9 t556.length co9) t556) ∧ Aside0 (Below w.heap.size w wc))
    case first =>
      have H := HC6.out; clear HC6
      by_cases c12 : t562 = t563
      · rw [if_pos c12] at H
        have c12b0 : (t562 == t563) = true := beq_iff_eq.mpr c12; have c12b1 : (t562 != t563) = false := bne_eq_false_iff_eq.mpr c12; clear c12
        (first | rw [c12b0] | (simp only [i64_w, i32_w]; rw [c12b0]) | skip)
        have H' := Aside0.mk H; clear H
        go_wp2
        go_meet
        case rel => exact ⟨_, (decide (t562 < 0)), sR, H', ⟨oR⟩, ⟨U HO559.out⟩, ⟨U HO561.out⟩, ⟨BU⟩⟩
      · rw [if_neg c12] at H
        have c12b0 : (t562 == t563) = false := beq_eq_false_iff_ne.mpr c12; have c12b1 : (t562 != t563) = true := bne_iff_ne.mpr c12
        (first | rw [c12b0] | (simp only [i64_w, i32_w]; rw [c12b0]) | skip)
        have H' := Aside0.mk H; clear H
        go_wp2
        go_meet
        case rel => exact ⟨_, (true), sR, H', ⟨oR⟩, ⟨U HO559.out⟩, ⟨U HO561.out⟩, ⟨BU⟩⟩
    case rest =>
      clear HC6; (try clear c2); (try clear c2b0); (try clear c2b1); obtain ⟨kq, x38_5, rfl, HA, HJ5, HO_3, HO_4, HB⟩ := hcut; cases kq with
      | zero => exact absurd HA.out (by simp [laws_FnConicMany.j0])
      | succ kj5 =>
        have H := HA.out; clear HA; simp only [laws_FnConicMany.j0] at H
        by_cases c13 : x38_5 = true
        · subst c13
          replace H := ifT H; obtain rfl := Option.some.inj H
          go_wp2
          go_ret
          exact ⟨eR, BU⟩
        · replace c13 := Bool.eq_false_iff.mpr c13
          subst c13; replace H := ifF H; have H' := Aside0.mk H; clear H
          go_wp2
          go_loopg [8, 9, 10] kj5 (fun kq v8 v9 v10 w' => ∃ (x8_2 : Int) (x9_2 : Int) (x10_2 : Int), v8 = .int .i64 x8_2 ∧ v9 = .int .i64 x9_2 ∧ v10 = .int .i64 x10_2 ∧ Aside0 (laws_FnConicMany.l0 kq t555 t556 t557 t562 x8_2 x9_2 x10_2 = some r) ∧ Aside0 (kq ≤ kj5) ∧ Aside0 (Kd.R (Kd.int .i64) 3 w' w.heap.size (fun k_ => some k_ ≠ ((.slice Ao9 t556.length co9) : Value).ownBlock) (.slice Ao8 t555.length co8) t555) ∧ Aside0 (Kd.R (Kd.int .i64) 3 w' w.heap.size (fun k_ => some k_ ≠ ((.slice Ao8 t555.length co8) : Value).ownBlock) (.slice Ao9 t556.length co9) t556) ∧ Aside0 (Below w.heap.size w w'))
          case atStart => exact ⟨(0), (0), (0), sR, sR, sR, H', ⟨Nat.le_refl _⟩, ⟨U HO_3.out⟩, ⟨U HO_4.out⟩, ⟨BU⟩⟩
          case round =>
            clear H'; (try clear c2); (try clear c2b0); (try clear c2b1); (try clear c13); obtain ⟨x8_2, x9_2, x10_2, rfl, rfl, rfl, HA, HK2, HO_3, HO_4, HB⟩ := hrel; cases gk with
            | zero => exact absurd HA.out (by simp [laws_FnConicMany.l0])
            | succ k2 =>
              have H := HA.out; clear HA; simp only [laws_FnConicMany.l0] at H
              by_cases c14 : x10_2 ≤ t557
              · rw [if_pos c14] at H
                have c14b0 : decide (x10_2 ≤ t557) = true := decide_eq_true c14; clear c14; have H' := Aside0.mk H; clear H
                go_wp2
                go_loopg [8, 9, 11] k2 (fun kq v8 v9 v11 w' => ∃ (x8_3 : Int) (x9_3 : Int) (x11_3 : Int), v8 = .int .i64 x8_3 ∧ v9 = .int .i64 x9_3 ∧ v11 = .int .i64 x11_3 ∧ Aside0 (laws_FnConicMany.l1 kq t555 t556 t557 t562 x8_3 x9_3 x10_2 x11_3 = some r) ∧ Aside0 (kq ≤ k2) ∧ Aside0 (Kd.R (Kd.int .i64) 3 w' w.heap.size (fun k_ => some k_ ≠ ((.slice Ao9 t556.length co9) : Value).ownBlock) (.slice Ao8 t555.length co8) t555) ∧ Aside0 (Kd.R (Kd.int .i64) 3 w' w.heap.size (fun k_ => some k_ ≠ ((.slice Ao8 t555.length co8) : Value).ownBlock) (.slice Ao9 t556.length co9) t556) ∧ Aside0 (Below w.heap.size w w'))
                case atStart => exact ⟨(x8_2), (x9_2), (wrap64 (-t557)), sR, sR, sR, H', ⟨Nat.le_refl _⟩, ⟨U HO_3.out⟩, ⟨U HO_4.out⟩, ⟨BU⟩⟩
                case round =>
                  clear H'; (try clear c2); (try clear c2b0); (try clear c2b1); (try clear c13); (try clear c14); (try clear c14b0); obtain ⟨x8_3, x9_3, x11_3, rfl, rfl, rfl, HA, HK3, HO_3, HO_4, HB⟩ := hrel; cases gk with
                  | zero => exact absurd HA.out (by simp [laws_FnConicMany.l1])
                  | succ k3 =>
                    have H := HA.out; clear HA; simp only [laws_FnConicMany.l1] at H
                    by_cases c15 : x11_3 ≤ t557
                    · rw [if_pos c15] at H
                      have c15b0 : decide (x11_3 ≤ t557) = true := decide_eq_true c15; clear c15; have HC16 := Aside0.mk H; clear H
                      go_upto_region 16 with (fail)
                      go_cut [65] (fun v65 wc => ∃ (kq : Nat) (x65_15 : Bool), v65 = .bool x65_15 ∧ Aside0 (laws_FnConicMany.j3 kq t555 t556 t557 t562 x8_3 x9_3 x10_2 x11_3 x65_15 = some r) ∧ Aside0 (kq ≤ k3) ∧ Aside0 (Kd.R (Kd.int .i64) 3 wc w.heap.size (fun k_ => some k_ ≠ ((.slice Ao9 t556.length co9) : Value).ownBlock) (.slice Ao8 t555.length co8) t555) ∧ Aside0 (Kd.R (Kd.int .i64) 3 wc w.heap.size (fun k_ => some k_ ≠ ((.slice Ao8 t555.length co8) : Value).ownBlock) (.slice Ao9 t556.length co9) t556) ∧ Aside0 (Below w.heap.size w wc))
                      case first =>
                        have H := HC16.out; clear HC16; obtain ⟨t565, A17, H⟩ := bnd H
                        by_cases c18 : t565 = 1
                        · rw [if_pos c18] at H
                          have c18b0 : (t565 == 1) = true := beq_iff_eq.mpr c18; have c18b1 : (t565 != 1) = false := bne_eq_false_iff_eq.mpr c18; clear c18
                          (first | rw [c18b0] | (simp only [i64_w, i32_w]; rw [c18b0]) | skip)
                          by_cases c19 : x10_2 = 0
                          · rw [if_pos c19] at H
                            have c19b0 : (x10_2 == 0) = true := beq_iff_eq.mpr c19; have c19b1 : (x10_2 != 0) = false := bne_eq_false_iff_eq.mpr c19; clear c19; have H' := Aside0.mk H; clear H
                            go_wp2_with (first | ((with_reducible refine gate_callee (f := 22) rfl ?_); refine goesK (some 56) Try.func22 #[.int .i64 x10_2, .int .i64 x11_3] ?_; (with_reducible refine (impl_GcdOf.calls k3 x10_2 x11_3 t565 _ A17.out).mono ?_); rintro e w20 ⟨rfl, hb⟩; refine ⟨_, rfl, ?_⟩; replace HO_3 := Aside0.mk (Kd.R_below (U HO_3.out) hb); replace HO_4 := Aside0.mk (Kd.R_below (U HO_4.out) hb); replace HB := BS hb; (try clear hb)))
                            go_meet
                            case rel => exact ⟨_, (decide (x11_3 < 0)), sR, H', ⟨by have := HJ5.out; have := HK2.out; have := HK3.out; first | omega | exact Nat.le_refl _⟩, ⟨U HO_3.out⟩, ⟨U HO_4.out⟩, ⟨BU⟩⟩
                          · rw [if_neg c19] at H
                            have c19b0 : (x10_2 == 0) = false := beq_eq_false_iff_ne.mpr c19; have c19b1 : (x10_2 != 0) = true := bne_iff_ne.mpr c19; have H' := Aside0.mk H; clear H
                            go_wp2_with (first | ((with_reducible refine gate_callee (f := 22) rfl ?_); refine goesK (some 56) Try.func22 #[.int .i64 x10_2, .int .i64 x11_3] ?_; (with_reducible refine (impl_GcdOf.calls k3 x10_2 x11_3 t565 _ A17.out).mono ?_); rintro e w21 ⟨rfl, hb⟩; refine ⟨_, rfl, ?_⟩; replace HO_3 := Aside0.mk (Kd.R_below (U HO_3.out) hb); replace HO_4 := Aside0.mk (Kd.R_below (U HO_4.out) hb); replace HB := BS hb; (try clear hb)))
                            go_meet
                            case rel => exact ⟨_, (false), sR, H', ⟨by have := HJ5.out; have := HK2.out; have := HK3.out; first | omega | exact Nat.le_refl _⟩, ⟨U HO_3.out⟩, ⟨U HO_4.out⟩, ⟨BU⟩⟩
                        · rw [if_neg c18] at H
                          have c18b0 : (t565 == 1) = false := beq_eq_false_iff_ne.mpr c18; have c18b1 : (t565 != 1) = true := bne_iff_ne.mpr c18
                          (first | rw [c18b0] | (simp only [i64_w, i32_w]; rw [c18b0]) | skip)
                          have H' := Aside0.mk H; clear H
                          go_wp2_with (first | ((with_reducible refine gate_callee (f := 22) rfl ?_); refine goesK (some 56) Try.func22 #[.int .i64 x10_2, .int .i64 x11_3] ?_; (with_reducible refine (impl_GcdOf.calls k3 x10_2 x11_3 t565 _ A17.out).mono ?_); rintro e w22 ⟨rfl, hb⟩; refine ⟨_, rfl, ?_⟩; replace HO_3 := Aside0.mk (Kd.R_below (U HO_3.out) hb); replace HO_4 := Aside0.mk (Kd.R_below (U HO_4.out) hb); replace HB := BS hb; (try clear hb)))
                          go_meet
                          case rel => exact ⟨_, (true), sR, H', ⟨by have := HJ5.out; have := HK2.out; have := HK3.out; first | omega | exact Nat.le_refl _⟩, ⟨U HO_3.out⟩, ⟨U HO_4.out⟩, ⟨BU⟩⟩
                      case rest =>
                        clear HC16; (try clear c2); (try clear c2b0); (try clear c2b1); (try clear c13); (try clear c14); (try clear c14b0); (try clear c15); (try clear c15b0); obtain ⟨kq, x65_15, rfl, HA, HJ15, HO_3, HO_4, HB⟩ := hcut; cases kq with
                        | zero => exact absurd HA.out (by simp [laws_FnConicMany.j3])
                        | succ kj15 =>
                          have H := HA.out; clear HA; simp only [laws_FnConicMany.j3] at H
                          by_cases c23 : x65_15 = true
                          · subst c23
                            replace H := ifT H; have H' := Aside0.mk H; clear H
                            go_wp2
                            go_roundg kj15
                            case measure => have := HJ5.out; have := HK2.out; have := HK3.out; have := HJ15.out; omega
                            case rel => exact ⟨(x8_3), (x9_3), (wrap64 (x11_3 + 1)), sR, sR, sR, H', ⟨by have := HJ5.out; have := HK2.out; have := HK3.out; have := HJ15.out; omega⟩, ⟨U HO_3.out⟩, ⟨U HO_4.out⟩, ⟨BU⟩⟩
                          · replace c23 := Bool.eq_false_iff.mpr c23
                            subst c23; replace H := ifF H; obtain ⟨⟨t566, t567⟩, A24, H⟩ := bnd H; replace H : (if t567 = true then (laws_FnConicMany.l1 kj15 t555 t556 t557 t562 (wrap64 (x8_3 + 1)) (wrap64 (x9_3 + 1)) x10_2 (wrap64 (x11_3 + 1))) else (laws_FnConicMany.l1 kj15 t555 t556 t557 t562 (wrap64 (x8_3 + 1)) x9_3 x10_2 (wrap64 (x11_3 + 1)))) = some r := H
                            by_cases c25 : t567 = true
                            · subst c25
                              replace H := ifT H; have H' := Aside0.mk H; clear H
                              go_wp2_with (first | ((with_reducible refine gate_callee (f := 12) rfl ?_); refine goesK (some 73) Try.func12 #[.slice Ao8 t555.length co8, .slice Ao9 t556.length co9, .int .i64 x10_2, .int .i64 x11_3] ?_; (with_reducible refine (impl_ConicAt.calls kj15 _ _ t555 _ _ t556 x10_2 x11_3 t566 true _ ?side1 ?side2 ?side3 ?side4 A24.out).mono ?_); (case side1 => exact U ((Kd.R_reads' HO_3.out).2.2)); (case side2 => exact (Kd.R_reads' HO_3.out).2.1); (case side3 => exact U ((Kd.R_reads' HO_4.out).2.2)); (case side4 => exact (Kd.R_reads' HO_4.out).2.1); rintro e w26 ⟨v568, rfl, ho0, hb⟩; refine ⟨_, rfl, ?_⟩; have HO569 := Aside0.mk (Kd.R_lower (Kd.R_new' (Kd.R_new' ho0 (Kd.R_lt (U HO_3.out))) (Kd.R_lt (U HO_4.out))) (below_size BU)); replace HO_3 := Aside0.mk (Kd.R_elder' (U HO_3.out) (Kd.R_base ho0) hb); replace HO_4 := Aside0.mk (Kd.R_elder' (U HO_4.out) (Kd.R_base ho0) hb); replace HB := BS hb; (try clear hb); (try clear ho0)))
                              go_roundg kj15
                              case measure => have := HJ5.out; have := HK2.out; have := HK3.out; have := HJ15.out; omega
                              case rel => exact ⟨(wrap64 (x8_3 + 1)), (wrap64 (x9_3 + 1)), (wrap64 (x11_3 + 1)), sR, sR, sR, H', ⟨by have := HJ5.out; have := HK2.out; have := HK3.out; have := HJ15.out; omega⟩, ⟨Kd.RM HO_3.out (fun _ hk => hk.1)⟩, ⟨Kd.RM HO_4.out (fun _ hk => hk.1)⟩, ⟨BU⟩⟩
                            · replace c25 := Bool.eq_false_iff.mpr c25
                              subst c25; replace H := ifF H; have H' := Aside0.mk H; clear H
                              go_wp2_with (first | ((with_reducible refine gate_callee (f := 12) rfl ?_); refine goesK (some 73) Try.func12 #[.slice Ao8 t555.length co8, .slice Ao9 t556.length co9, .int .i64 x10_2, .int .i64 x11_3] ?_; (with_reducible refine (impl_ConicAt.calls kj15 _ _ t555 _ _ t556 x10_2 x11_3 t566 false _ ?side1 ?side2 ?side3 ?side4 A24.out).mono ?_); (case side1 => exact U ((Kd.R_reads' HO_3.out).2.2)); (case side2 => exact (Kd.R_reads' HO_3.out).2.1); (case side3 => exact U ((Kd.R_reads' HO_4.out).2.2)); (case side4 => exact (Kd.R_reads' HO_4.out).2.1); rintro e w27 ⟨v568, rfl, ho0, hb⟩; refine ⟨_, rfl, ?_⟩; have HO569 := Aside0.mk (Kd.R_lower (Kd.R_new' (Kd.R_new' ho0 (Kd.R_lt (U HO_3.out))) (Kd.R_lt (U HO_4.out))) (below_size BU)); replace HO_3 := Aside0.mk (Kd.R_elder' (U HO_3.out) (Kd.R_base ho0) hb); replace HO_4 := Aside0.mk (Kd.R_elder' (U HO_4.out) (Kd.R_base ho0) hb); replace HB := BS hb; (try clear hb); (try clear ho0)))
                              go_roundg kj15
                              case measure => have := HJ5.out; have := HK2.out; have := HK3.out; have := HJ15.out; omega
                              case rel => exact ⟨(wrap64 (x8_3 + 1)), (x9_3), (wrap64 (x11_3 + 1)), sR, sR, sR, H', ⟨by have := HJ5.out; have := HK2.out; have := HK3.out; have := HJ15.out; omega⟩, ⟨Kd.RM HO_3.out (fun _ hk => hk.1)⟩, ⟨Kd.RM HO_4.out (fun _ hk => hk.1)⟩, ⟨BU⟩⟩
                    · rw [if_neg c15] at H
                      have c15b0 : decide (x11_3 ≤ t557) = false := decide_eq_false c15; clear c15; have H' := Aside0.mk H; clear H
                      go_wp2
                      go_roundg k3
                      case measure => have := HJ5.out; have := HK2.out; have := HK3.out; omega
                      case rel => exact ⟨(x8_3), (x9_3), (wrap64 (x10_2 + 1)), sR, sR, sR, H', ⟨by have := HJ5.out; have := HK2.out; have := HK3.out; omega⟩, ⟨U HO_3.out⟩, ⟨U HO_4.out⟩, ⟨BU⟩⟩
              · rw [if_neg c14] at H
                have c14b0 : decide (x10_2 ≤ t557) = false := decide_eq_false c14; clear c14; obtain ⟨t564, A28, H⟩ := bnd H
                by_cases c29 : t562 = x9_2
                · rw [if_pos c29] at H
                  have c29b0 : (t562 == x9_2) = true := beq_iff_eq.mpr c29; have c29b1 : (t562 != x9_2) = false := bne_eq_false_iff_eq.mpr c29; clear c29
                  by_cases c30 : t562 ≤ x8_2
                  · rw [if_pos c30] at H
                    have c30b0 : decide (t562 ≤ x8_2) = true := decide_eq_true c30; clear c30
                    by_cases c31 : t557 = 5
                    · rw [if_pos c31] at H
                      have c31b0 : (t557 == 5) = true := beq_iff_eq.mpr c31; have c31b1 : (t557 != 5) = false := bne_eq_false_iff_eq.mpr c31; clear c31; obtain rfl := Option.some.inj H
                      go_wp2_with (first | ((with_reducible refine gate_callee (f := 26) rfl ?_); refine goesK (some 83) Try.func26 #[.slice Ao8 t555.length co8, .slice Ao9 t556.length co9, .int .i64 (wrap64 (t557 + 1))] ?_; (with_reducible refine (impl_ConicMany.calls k2 _ _ t555 _ _ t556 (wrap64 (t557 + 1)) t564 _ ?side1 ?side2 ?side3 ?side4 A28.out).mono ?_); (case side1 => exact U ((Kd.R_reads' HO_3.out).2.2)); (case side2 => exact (Kd.R_reads' HO_3.out).2.1); (case side3 => exact U ((Kd.R_reads' HO_4.out).2.2)); (case side4 => exact (Kd.R_reads' HO_4.out).2.1); rintro e w32 ⟨rfl, hb⟩; refine ⟨_, rfl, ?_⟩; replace HO_3 := Aside0.mk (Kd.R_below (U HO_3.out) hb); replace HO_4 := Aside0.mk (Kd.R_below (U HO_4.out) hb); replace HB := BS hb; (try clear hb)))
                      go_ret
                      exact ⟨eR, BU⟩
                    · rw [if_neg c31] at H
                      have c31b0 : (t557 == 5) = false := beq_eq_false_iff_ne.mpr c31; have c31b1 : (t557 != 5) = true := bne_iff_ne.mpr c31; obtain rfl := Option.some.inj H
                      go_wp2_with (first | ((with_reducible refine gate_callee (f := 26) rfl ?_); refine goesK (some 83) Try.func26 #[.slice Ao8 t555.length co8, .slice Ao9 t556.length co9, .int .i64 (wrap64 (t557 + 1))] ?_; (with_reducible refine (impl_ConicMany.calls k2 _ _ t555 _ _ t556 (wrap64 (t557 + 1)) t564 _ ?side1 ?side2 ?side3 ?side4 A28.out).mono ?_); (case side1 => exact U ((Kd.R_reads' HO_3.out).2.2)); (case side2 => exact (Kd.R_reads' HO_3.out).2.1); (case side3 => exact U ((Kd.R_reads' HO_4.out).2.2)); (case side4 => exact (Kd.R_reads' HO_4.out).2.1); rintro e w33 ⟨rfl, hb⟩; refine ⟨_, rfl, ?_⟩; replace HO_3 := Aside0.mk (Kd.R_below (U HO_3.out) hb); replace HO_4 := Aside0.mk (Kd.R_below (U HO_4.out) hb); replace HB := BS hb; (try clear hb)))
                      go_ret
                      exact ⟨eR, BU⟩
                  · rw [if_neg c30] at H
                    exact absurd H (by simp)
                · rw [if_neg c29] at H
                  exact absurd H (by simp)

/-- THE ONE PURE STATEMENT of laws_FnConicMany: yours. -/
def laws_FnConicMany.Pure : Prop := ∀ (l0 : List Int), l0.length ≤ maxLen → l0.length * 1 ≤ 140737488351232 → (∀ x ∈ l0, (Lit.int .u8 x).wf = true) → ∃ k, laws_FnConicMany.f k l0 = some true
theorem laws_FnConicMany.walk (P : laws_FnConicMany.Pure) (a0 : Option Addr) (len0 cap0 : Nat) (z0 : List Int) (w : World) (w0 : (a0 = none ∧ len0 = 0 ∧ cap0 = 0 ∧ z0 = []) ∨ ∃ x, a0 = some x ∧ len0 ≤ cap0 ∧ cap0 ≤ maxLen ∧ z0.length = cap0 ∧ (∀ i, i < z0.length → w.cell? (x.add i) = some (.int .u8 (z0.getD i 0))) ∧ ∀ n ∈ z0, (Lit.int .u8 n).wf = true) (y0 : len0 * 1 ≤ 140737488351232) :
    Calls Try.prog 7 #[.slice a0 len0 cap0] w fun e w' => e = .returned (.bool true) ∧ Below w.heap.size w w' := by
  obtain ⟨l0, rfl, hr0, hm0, hw0, hc0⟩ := ReadsInt.ofRowC w0
  obtain ⟨k, h⟩ := P l0 hm0 y0 hw0
  refine (laws_FnConicMany.calls k _ _ l0 true w (Kd.C_of_reads (d := (0 : Int)) (h1 := fun _ => rfl) hr0) hc0 h).mono ?_
  rintro e w' ⟨rfl, hd⟩
  exact ⟨rfl, hd⟩

end Go.Proofs.Ytpaohkhmhdhibaa.PFnConicMany
