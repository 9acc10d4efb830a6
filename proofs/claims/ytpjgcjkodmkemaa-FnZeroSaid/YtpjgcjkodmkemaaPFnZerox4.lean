-- Written by a program of this session (wip/print2.py): the functions that the law reaches, plain, and the walks.
import Derived.Test.YtpjgcjkodmkemaaPFnZerox0
import Derived.Test.YtpjgcjkodmkemaaPFnZerox1
import Derived.Test.YtpjgcjkodmkemaaPFnZerox3
namespace Go.Proofs.Ytpjgcjkodmkemaa.PFnZero
open Go.RowKit Go.Proofs.YtpjgcjkodmkemaaW.PrintWords Go.Proofs.YtpjgcjkodmkemaaW.PrintLast Go.Proofs.YtpjgcjkodmkemaaW.PrintMore
attribute [local go_sem] max2_int min2_int max_two min_two max_three min_three max_four min_four   -- for this text's walks alone
set_option linter.unusedVariables false
set_option linter.unusedSimpArgs false

/-! ### spec_l5Search: function 70 -/
mutual
def spec_l5Search.l0 : Nat → Int → Int → Int → Int → Option (List Int × Bool)
  | 0, _, _, _, _ => none
  | k + 1, x4, x5, x6, x7 => (spec_l1Size.f (wrap64 (x5 * x6))).bind fun t172 => (if (wrap64 (x7 * x7)) ≤ t172 then (spec_l5Search.l1 k x4 x5 x6 x7 0) else (some ((([] : List Int)), false)))
def spec_l5Search.l1 : Nat → Int → Int → Int → Int → Int → Option (List Int × Bool)
  | 0, _, _, _, _, _ => none
  | k + 1, x4, x5, x6, x7, x8 => (spec_l1Size.f (wrap64 (x4 * x6))).bind fun t176 => (if (wrap64 (x8 * x8)) ≤ t176 then (if x6 = 0 then (none) else (if (Int.tmod (wrap64 ((wrap64 (-(wrap64 ((wrap64 (x4 * x7)) * x7)))) - (wrap64 ((wrap64 (x5 * x8)) * x8)))) x6) = 0 then (if (wrap64 (Int.tdiv (wrap64 ((wrap64 (-(wrap64 ((wrap64 (x4 * x7)) * x7)))) - (wrap64 ((wrap64 (x5 * x8)) * x8)))) x6)) < 0 then (spec_l5Search.j2 k x4 x5 x6 x7 x8 (wrap64 ((wrap64 (-(wrap64 ((wrap64 (x4 * x7)) * x7)))) - (wrap64 ((wrap64 (x5 * x8)) * x8)))) true) else (if x7 = 0 then (spec_l5Search.j2 k x4 x5 x6 x7 x8 (wrap64 ((wrap64 (-(wrap64 ((wrap64 (x4 * x7)) * x7)))) - (wrap64 ((wrap64 (x5 * x8)) * x8)))) (x8 == 0)) else (spec_l5Search.j2 k x4 x5 x6 x7 x8 (wrap64 ((wrap64 (-(wrap64 ((wrap64 (x4 * x7)) * x7)))) - (wrap64 ((wrap64 (x5 * x8)) * x8)))) false))) else (spec_l5Search.j2 k x4 x5 x6 x7 x8 (wrap64 ((wrap64 (-(wrap64 ((wrap64 (x4 * x7)) * x7)))) - (wrap64 ((wrap64 (x5 * x8)) * x8)))) true))) else (spec_l5Search.l0 k x4 x5 x6 (wrap64 (x7 + 1))))
def spec_l5Search.j2 : Nat → Int → Int → Int → Int → Int → Int → Bool → Option (List Int × Bool)
  | 0, _, _, _, _, _, _, _ => none
  | k + 1, x4, x5, x6, x7, x8, x9, x69 => if x69 = true then (spec_l5Search.l1 k x4 x5 x6 x7 (wrap64 (x8 + 1))) else (if x6 = 0 then (none) else ((spec_l5Root.f k (wrap64 (Int.tdiv x9 x6))).bind fun t177 => (if t177 ≥ 0 then (some ((([x7, x8, t177] : List Int)), true)) else (spec_l5Search.l1 k x4 x5 x6 x7 (wrap64 (x8 + 1))))))
end
def spec_l5Search.f (k : Nat) (l0 : List Int) : Option (List Int × Bool) := if 0 < (l0.length : Int) then (if 1 < (l0.length : Int) then (if 2 < (l0.length : Int) then (spec_l5Search.l0 k (rd l0 0) (rd l0 1) (rd l0 2) 0) else (none)) else (none)) else (none)
theorem spec_l5Search.mono_l : ∀ k, (∀ y0 y1 y2 y3, LeO (spec_l5Search.l0 k y0 y1 y2 y3) (spec_l5Search.l0 (k + 1) y0 y1 y2 y3)) ∧ (∀ y0 y1 y2 y3 y4, LeO (spec_l5Search.l1 k y0 y1 y2 y3 y4) (spec_l5Search.l1 (k + 1) y0 y1 y2 y3 y4)) ∧ (∀ y0 y1 y2 y3 y4 y5 y6, LeO (spec_l5Search.j2 k y0 y1 y2 y3 y4 y5 y6) (spec_l5Search.j2 (k + 1) y0 y1 y2 y3 y4 y5 y6))
  | 0 => ⟨fun _ _ _ _ r h => by simp [spec_l5Search.l0] at h, fun _ _ _ _ _ r h => by simp [spec_l5Search.l1] at h, fun _ _ _ _ _ _ _ r h => by simp [spec_l5Search.j2] at h⟩
  | k + 1 => by
    obtain ⟨ih0, ih1, ih2⟩ := spec_l5Search.mono_l k
    refine ⟨?_, ?_, ?_⟩ <;> intros <;> (first | unfold spec_l5Search.l0 | unfold spec_l5Search.l1 | unfold spec_l5Search.j2) <;> (repeat' first
      | (with_reducible exact ih0 _ _ _ _)
      | (with_reducible exact ih1 _ _ _ _ _)
      | (with_reducible exact ih2 _ _ _ _ _ _ _)
      | (with_reducible exact spec_l5Root.mono _ _)
      | (with_reducible exact LeO.refl _)
      | (with_reducible exact LeO.none _)
      | (with_reducible refine LeO.ite ?_ ?_)
      | (with_reducible refine LeO.bind ?_ (fun _ => ?_))
      | exact ih0 _ _ _ _
      | exact ih1 _ _ _ _ _
      | exact ih2 _ _ _ _ _ _ _
      | exact spec_l5Root.mono _ _
      | exact LeO.none _
      | refine LeO.ite ?_ ?_
      | refine LeO.bind ?_ (fun _ => ?_))
theorem spec_l5Search.mono : ∀ a0 k, LeO (spec_l5Search.f k a0) (spec_l5Search.f (k + 1) a0) := by
  intro a0 k
  obtain ⟨ih0, ih1, ih2⟩ := spec_l5Search.mono_l k
  unfold spec_l5Search.f
  repeat' first
      | (with_reducible exact ih0 _ _ _ _)
      | (with_reducible exact ih1 _ _ _ _ _)
      | (with_reducible exact ih2 _ _ _ _ _ _ _)
      | (with_reducible exact spec_l5Root.mono _ _)
      | (with_reducible exact LeO.refl _)
      | (with_reducible exact LeO.none _)
      | (with_reducible refine LeO.ite ?_ ?_)
      | (with_reducible refine LeO.bind ?_ (fun _ => ?_))
      | exact ih0 _ _ _ _
      | exact ih1 _ _ _ _ _
      | exact ih2 _ _ _ _ _ _ _
      | exact spec_l5Root.mono _ _
      | exact LeO.none _
      | refine LeO.ite ?_ ?_
      | refine LeO.bind ?_ (fun _ => ?_)
set_option maxHeartbeats 8000000 in
set_option maxRecDepth 100000 in
theorem spec_l5Search.calls (k : Nat) (A0 : Option Addr) (c0 : Nat) (l0 : List Int) (r1 : List Int) (r2 : Bool) (w : World) (hr0 : Kd.C (Kd.int .i64) w A0 l0.length l0) (hc0 : l0.length ≤ c0) (h : spec_l5Search.f k l0 = some (r1, r2)) :
    Calls Try.prog 70 #[.slice A0 l0.length c0] w fun e w' => ∃ v0_ : Value, e = .returned (.tuple #[v0_, .bool r2]) ∧ Kd.R (Kd.int .i64) 3 w' w.heap.size (fun _ => True) v0_ r1 ∧ Below w.heap.size w w' := by
  have HR0 := Aside0.mk hr0; have HC0 := Aside0.mk hc0; clear hr0 hc0; have HB := Aside0.mk (Below.refl w.heap.size w); unfold spec_l5Search.f at h; have H := h; clear h; obtain ⟨c2, H⟩ := ifN H; have c2b0 : decide (0 < (l0.length : Int)) = true := decide_eq_true c2; have c2b1 : decide (0 < l0.length) = true := decide_eq_true (by omega); clear c2; obtain ⟨c3, H⟩ := ifN H; have c3b0 : decide (1 < (l0.length : Int)) = true := decide_eq_true c3; have c3b1 : decide (1 < l0.length) = true := decide_eq_true (by omega); clear c3; obtain ⟨c4, H⟩ := ifN H; have c4b0 : decide (2 < (l0.length : Int)) = true := decide_eq_true c4; have c4b1 : decide (2 < l0.length) = true := decide_eq_true (by omega); clear c4; have H' := Aside0.mk H; clear H; have p169 : 0 ≤ (0 : Int) := (by omega); have q169 : 0 < (l0.length : Int) := oD; obtain ⟨ad169, e169, hx169_0⟩ := Kd.at_int HR0.out 0 p169 q169; cases e169; have qi169 : (0 < l0.length) = True := eq_true (by omega)
  (try rw [show ((0 : Int)).toNat = 0 from rfl] at hx169_0)
  (try rw [Addr.add_zero'] at hx169_0)
  replace p169 := eq_true p169; replace q169 := eq_true q169; have p170 : 0 ≤ (1 : Int) := (by omega); have q170 : 1 < (l0.length : Int) := oD; obtain ⟨ad170, e170, hx170_0⟩ := Kd.at_int HR0.out 1 p170 q170; obtain rfl : ad169 = ad170 := (by injection e170)
  (try simp only [show (1 : Int).toNat = 1 from rfl, Nat.reduceMul, Nat.reduceEqDiff, Go.Addr.add, ↓reduceIte] at hx170_0)
  have qi170 : (1 < l0.length) = True := eq_true (by omega)
  (try rw [show ((1 : Int)).toNat = 1 from rfl] at hx170_0)
  replace p170 := eq_true p170; replace q170 := eq_true q170; have p171 : 0 ≤ (2 : Int) := (by omega); have q171 : 2 < (l0.length : Int) := oD; obtain ⟨ad171, e171, hx171_0⟩ := Kd.at_int HR0.out 2 p171 q171; obtain rfl : ad169 = ad171 := (by injection e171)
  (try simp only [show (2 : Int).toNat = 2 from rfl, Nat.reduceMul, Nat.reduceEqDiff, Go.Addr.add, ↓reduceIte] at hx171_0)
  have qi171 : (2 < l0.length) = True := eq_true (by omega)
  (try rw [show ((2 : Int)).toNat = 2 from rfl] at hx171_0)
  replace p171 := eq_true p171; replace q171 := eq_true q171; go_enter Try.func70, Try.ntmps70
  go_wp2
  go_loopg [7] k (fun kq v7 w' => ∃ (x7_1 : Int), v7 = .int .i64 x7_1 ∧ Aside0 (spec_l5Search.l0 kq (rd l0 0) (rd l0 1) (rd l0 2) x7_1 = some (r1, r2)) ∧ Aside0 (kq ≤ k) ∧ Aside0 (Below w.heap.size w w'))
  case atStart => exact ⟨(0), sR, H', ⟨Nat.le_refl _⟩, ⟨BU⟩⟩
  case round =>
    clear H'; (try clear c2); (try clear c2b0); (try clear c2b1); (try clear c3); (try clear c3b0); (try clear c3b1); (try clear c4); (try clear c4b0); (try clear c4b1); (try clear hx169_0); (try clear hx170_0); (try clear hx171_0); (try clear p169); (try clear p170); (try clear p171); (try clear q169); (try clear q170); (try clear q171); obtain ⟨x7_1, rfl, HA, HK1, HB⟩ := hrel; cases gk with
    | zero => exact absurd HA.out (by simp [spec_l5Search.l0])
    | succ k1 =>
      have H := HA.out; clear HA; simp only [spec_l5Search.l0] at H; obtain ⟨t172, A5, H⟩ := bnd H
      by_cases c6 : (wrap64 (x7_1 * x7_1)) ≤ t172
      · rw [if_pos c6] at H
        have c6b0 : decide ((wrap64 (x7_1 * x7_1)) ≤ t172) = true := decide_eq_true c6; clear c6; have H' := Aside0.mk H; clear H
        go_wp2_with (first | ((with_reducible refine gate_callee (f := 62) rfl ?_); refine goesK (some 26) Try.func62 #[.int .i64 (wrap64 ((rd l0 1) * (rd l0 2)))] ?_; (with_reducible refine (spec_l1Size.calls (wrap64 ((rd l0 1) * (rd l0 2))) t172 _ A5.out).mono ?_); rintro e w7 ⟨rfl, hb⟩; refine ⟨_, rfl, ?_⟩; replace HB := BS hb; (try clear hb)))
        go_loopg [8] k1 (fun kq v8 w' => ∃ (x8_2 : Int), v8 = .int .i64 x8_2 ∧ Aside0 (spec_l5Search.l1 kq (rd l0 0) (rd l0 1) (rd l0 2) x7_1 x8_2 = some (r1, r2)) ∧ Aside0 (kq ≤ k1) ∧ Aside0 (Below w.heap.size w w'))
        case atStart => exact ⟨(0), sR, H', ⟨Nat.le_refl _⟩, ⟨BU⟩⟩
        case round =>
          clear H'; (try clear c2); (try clear c2b0); (try clear c2b1); (try clear c3); (try clear c3b0); (try clear c3b1); (try clear c4); (try clear c4b0); (try clear c4b1); (try clear c6); (try clear c6b0); (try clear hx169_0); (try clear hx170_0); (try clear hx171_0); (try clear p169); (try clear p170); (try clear p171); (try clear q169); (try clear q170); (try clear q171); obtain ⟨x8_2, rfl, HA, HK2, HB⟩ := hrel; cases gk with
          | zero => exact absurd HA.out (by simp [spec_l5Search.l1])
          | succ k2 =>
            have H := HA.out; clear HA; simp only [spec_l5Search.l1] at H; obtain ⟨t176, A8, H⟩ := bnd H
            by_cases c9 : (wrap64 (x8_2 * x8_2)) ≤ t176
            · rw [if_pos c9] at H
              have c9b0 : decide ((wrap64 (x8_2 * x8_2)) ≤ t176) = true := decide_eq_true c9; clear c9; have HC10 := Aside0.mk H; clear H
              go_upto_region 11 with (first | ((with_reducible refine gate_callee (f := 62) rfl ?_); refine goesK (some 36) Try.func62 #[.int .i64 (wrap64 ((rd l0 0) * (rd l0 2)))] ?_; (with_reducible refine (spec_l1Size.calls (wrap64 ((rd l0 0) * (rd l0 2))) t176 _ A8.out).mono ?_); rintro e w11 ⟨rfl, hb⟩; refine ⟨_, rfl, ?_⟩; replace HB := BS hb; (try clear hb)))
              (try simp only [Act.put, List.setIfInBounds_toArray, List.set_cons_zero, List.set_cons_succ])
              go_cut [69] (fun v69 wc => ∃ (kq : Nat) (x69_9 : Bool), v69 = .bool x69_9 ∧ Aside0 (spec_l5Search.j2 kq (rd l0 0) (rd l0 1) (rd l0 2) x7_1 x8_2 (wrap64 ((wrap64 (-(wrap64 ((wrap64 ((rd l0 0) * x7_1)) * x7_1)))) - (wrap64 ((wrap64 ((rd l0 1) * x8_2)) * x8_2)))) x69_9 = some (r1, r2)) ∧ Aside0 (kq ≤ k2) ∧ Aside0 (Below w.heap.size w wc))
              case first =>
                have H := HC10.out; clear HC10; obtain ⟨c12, H⟩ := ifM H; have c12b0 : ((rd l0 2) == 0) = false := beq_eq_false_iff_ne.mpr c12; have c12b1 : ((rd l0 2) != 0) = true := bne_iff_ne.mpr c12
                (first | rw [c12b0] | (simp only [i64_w, i32_w]; rw [c12b0]) | skip)
                by_cases c13 : (Int.tmod (wrap64 ((wrap64 (-(wrap64 ((wrap64 ((rd l0 0) * x7_1)) * x7_1)))) - (wrap64 ((wrap64 ((rd l0 1) * x8_2)) * x8_2)))) (rd l0 2)) = 0
                · rw [if_pos c13] at H
                  have c13b0 : ((Int.tmod (wrap64 ((wrap64 (-(wrap64 ((wrap64 ((rd l0 0) * x7_1)) * x7_1)))) - (wrap64 ((wrap64 ((rd l0 1) * x8_2)) * x8_2)))) (rd l0 2)) == 0) = true := beq_iff_eq.mpr c13; have c13b1 : ((Int.tmod (wrap64 ((wrap64 (-(wrap64 ((wrap64 ((rd l0 0) * x7_1)) * x7_1)))) - (wrap64 ((wrap64 ((rd l0 1) * x8_2)) * x8_2)))) (rd l0 2)) != 0) = false := bne_eq_false_iff_eq.mpr c13; clear c13
                  by_cases c14 : (wrap64 (Int.tdiv (wrap64 ((wrap64 (-(wrap64 ((wrap64 ((rd l0 0) * x7_1)) * x7_1)))) - (wrap64 ((wrap64 ((rd l0 1) * x8_2)) * x8_2)))) (rd l0 2))) < 0
                  · rw [if_pos c14] at H
                    have c14b0 : decide ((wrap64 (Int.tdiv (wrap64 ((wrap64 (-(wrap64 ((wrap64 ((rd l0 0) * x7_1)) * x7_1)))) - (wrap64 ((wrap64 ((rd l0 1) * x8_2)) * x8_2)))) (rd l0 2))) < 0) = true := decide_eq_true c14; clear c14; have H' := Aside0.mk H; clear H
                    go_wp2
                    go_meet
                    case rel => exact ⟨_, (true), sR, H', ⟨by have := HK1.out; have := HK2.out; first | omega | exact Nat.le_refl _⟩, ⟨BU⟩⟩
                  rw [if_neg c14] at H; have c14b0 : decide ((wrap64 (Int.tdiv (wrap64 ((wrap64 (-(wrap64 ((wrap64 ((rd l0 0) * x7_1)) * x7_1)))) - (wrap64 ((wrap64 ((rd l0 1) * x8_2)) * x8_2)))) (rd l0 2))) < 0) = false := decide_eq_false c14; clear c14
                  by_cases c15 : x7_1 = 0
                  · rw [if_pos c15] at H
                    have c15b0 : (x7_1 == 0) = true := beq_iff_eq.mpr c15; have c15b1 : (x7_1 != 0) = false := bne_eq_false_iff_eq.mpr c15; clear c15; have H' := Aside0.mk H; clear H
                    go_wp2
                    go_meet
                    case rel => exact ⟨_, ((x8_2 == 0)), sR, H', ⟨by have := HK1.out; have := HK2.out; first | omega | exact Nat.le_refl _⟩, ⟨BU⟩⟩
                  rw [if_neg c15] at H; have c15b0 : (x7_1 == 0) = false := beq_eq_false_iff_ne.mpr c15; have c15b1 : (x7_1 != 0) = true := bne_iff_ne.mpr c15; have H' := Aside0.mk H; clear H
                  go_wp2
                  go_meet
                  case rel => exact ⟨_, (false), sR, H', ⟨by have := HK1.out; have := HK2.out; first | omega | exact Nat.le_refl _⟩, ⟨BU⟩⟩
                rw [if_neg c13] at H; have c13b0 : ((Int.tmod (wrap64 ((wrap64 (-(wrap64 ((wrap64 ((rd l0 0) * x7_1)) * x7_1)))) - (wrap64 ((wrap64 ((rd l0 1) * x8_2)) * x8_2)))) (rd l0 2)) == 0) = false := beq_eq_false_iff_ne.mpr c13; have c13b1 : ((Int.tmod (wrap64 ((wrap64 (-(wrap64 ((wrap64 ((rd l0 0) * x7_1)) * x7_1)))) - (wrap64 ((wrap64 ((rd l0 1) * x8_2)) * x8_2)))) (rd l0 2)) != 0) = true := bne_iff_ne.mpr c13; have H' := Aside0.mk H; clear H
                go_wp2
                go_meet
                case rel => exact ⟨_, (true), sR, H', ⟨by have := HK1.out; have := HK2.out; first | omega | exact Nat.le_refl _⟩, ⟨BU⟩⟩
              case rest =>
                clear HC10; (try clear c2); (try clear c2b0); (try clear c2b1); (try clear c3); (try clear c3b0); (try clear c3b1); (try clear c4); (try clear c4b0); (try clear c4b1); (try clear c6); (try clear c6b0); (try clear c9); (try clear c9b0); (try clear hx169_0); (try clear hx170_0); (try clear hx171_0); (try clear p169); (try clear p170); (try clear p171); (try clear q169); (try clear q170); (try clear q171); obtain ⟨kq, x69_9, rfl, HA, HJ9, HB⟩ := hcut; cases kq with
                | zero => exact absurd HA.out (by simp [spec_l5Search.j2])
                | succ kj9 =>
                  have H := HA.out; clear HA; simp only [spec_l5Search.j2] at H
                  by_cases c16 : x69_9 = true
                  · subst c16
                    replace H := ifT H; have H' := Aside0.mk H; clear H
                    go_wp2
                    go_roundg kj9
                    case measure => have := HK1.out; have := HK2.out; have := HJ9.out; omega
                    case rel => exact ⟨(wrap64 (x8_2 + 1)), sR, H', ⟨by have := HK1.out; have := HK2.out; have := HJ9.out; omega⟩, ⟨BU⟩⟩
                  replace c16 := Bool.eq_false_iff.mpr c16; subst c16; replace H := ifF H; obtain ⟨c17, H⟩ := ifM H; have c17b0 : ((rd l0 2) == 0) = false := beq_eq_false_iff_ne.mpr c17; have c17b1 : ((rd l0 2) != 0) = true := bne_iff_ne.mpr c17; obtain ⟨t177, A18, H⟩ := bnd H
                  by_cases c19 : t177 ≥ 0
                  · rw [if_pos c19] at H
                    have c19b0 : decide (0 ≤ t177) = true := decide_eq_true c19; clear c19; obtain ⟨y178, hy178⟩ : ∃ y_ : List Int, y_ = (([x7_1, x8_2, t177] : List Int)) := ⟨_, rfl⟩; replace H : (some (y178, true)) = some (r1, r2) := rH hy178 H; have Ny178 := Aside0.mk hy178; clear hy178; simp only [Option.some.injEq, Prod.mk.injEq] at H; obtain ⟨rfl, rfl⟩ := H
                    go_wp2_with (first | ((with_reducible refine gate_callee (f := 77) rfl ?_); refine goesK (some 73) Try.func77 #[.int .i64 (wrap64 (Int.tdiv (wrap64 ((wrap64 (-(wrap64 ((wrap64 ((rd l0 0) * x7_1)) * x7_1)))) - (wrap64 ((wrap64 ((rd l0 1) * x8_2)) * x8_2)))) (rd l0 2)))] ?_; (with_reducible refine (spec_l5Root.calls kj9 (wrap64 (Int.tdiv (wrap64 ((wrap64 (-(wrap64 ((wrap64 ((rd l0 0) * x7_1)) * x7_1)))) - (wrap64 ((wrap64 ((rd l0 1) * x8_2)) * x8_2)))) (rd l0 2))) t177 _ A18.out).mono ?_); rintro e w' ⟨rfl, ⟨nd, rfl⟩⟩; refine ⟨_, rfl, ?_⟩) | ((with_reducible refine gate_dst (N := 79) rfl ?_); refine Kd.R_lit (Kd.int .i64) _ 3 ?hg (N := 79) ?hd (xs := ([x7_1, x8_2, t177] : List Int)) (inner := [.int .i64 x7_1, .int .i64 x8_2, .int .i64 t177]) (ok := fun _ => True) (okp := fun _ => True) ?hr ?hp (fun _ hk => hk) trivial (Below.refl _ _) (Nat.le_refl _) (by simp) ?_; (case hd => rfl); (case hg => rfl); (case hr => first | (go_simp; done) | (go_simp; rfl)); (case hp => exact (Reps.one (show Kd.M (Kd.int .i64) _ _ _ x7_1 [.int .i64 x7_1] from rfl) (Reps.one (show Kd.M (Kd.int .i64) _ _ _ x8_2 [.int .i64 x8_2] from rfl) (Reps.one (show Kd.M (Kd.int .i64) _ _ _ t177 [.int .i64 t177] from rfl) (Reps.none _ _))))); intro v179 w20 ho21 hb hg_ hnew_; clear hg_ hnew_; (first | rw [← Ny178.out] at ho21 | (simp only [Int.reduceToNat] at ho21; rw [← Ny178.out] at ho21)); have HO180 := Aside0.mk (Kd.R_lower ho21 (below_size BU)); replace HB := BS hb; clear hb ho21))
                    go_ret2
                    exact ⟨_, eR, U HO180.out, BU⟩
                  rw [if_neg c19] at H; have c19b0 : decide (0 ≤ t177) = false := decide_eq_false c19; clear c19; have H' := Aside0.mk H; clear H
                  go_wp2_with (first | ((with_reducible refine gate_callee (f := 77) rfl ?_); refine goesK (some 73) Try.func77 #[.int .i64 (wrap64 (Int.tdiv (wrap64 ((wrap64 (-(wrap64 ((wrap64 ((rd l0 0) * x7_1)) * x7_1)))) - (wrap64 ((wrap64 ((rd l0 1) * x8_2)) * x8_2)))) (rd l0 2)))] ?_; (with_reducible refine (spec_l5Root.calls kj9 (wrap64 (Int.tdiv (wrap64 ((wrap64 (-(wrap64 ((wrap64 ((rd l0 0) * x7_1)) * x7_1)))) - (wrap64 ((wrap64 ((rd l0 1) * x8_2)) * x8_2)))) (rd l0 2))) t177 _ A18.out).mono ?_); rintro e w' ⟨rfl, ⟨nd, rfl⟩⟩; refine ⟨_, rfl, ?_⟩))
                  go_roundg kj9
                  case measure => have := HK1.out; have := HK2.out; have := HJ9.out; omega
                  case rel => exact ⟨(wrap64 (x8_2 + 1)), sR, H', ⟨by have := HK1.out; have := HK2.out; have := HJ9.out; omega⟩, ⟨BU⟩⟩
            rw [if_neg c9] at H; have c9b0 : decide ((wrap64 (x8_2 * x8_2)) ≤ t176) = false := decide_eq_false c9; clear c9; have H' := Aside0.mk H; clear H
            go_wp2_with (first | ((with_reducible refine gate_callee (f := 62) rfl ?_); refine goesK (some 36) Try.func62 #[.int .i64 (wrap64 ((rd l0 0) * (rd l0 2)))] ?_; (with_reducible refine (spec_l1Size.calls (wrap64 ((rd l0 0) * (rd l0 2))) t176 _ A8.out).mono ?_); rintro e w22 ⟨rfl, hb⟩; refine ⟨_, rfl, ?_⟩; replace HB := BS hb; (try clear hb)))
            go_roundg k2
            case measure => have := HK1.out; have := HK2.out; omega
            case rel => exact ⟨(wrap64 (x7_1 + 1)), sR, H', ⟨by have := HK1.out; have := HK2.out; omega⟩, ⟨BU⟩⟩
      rw [if_neg c6] at H; have c6b0 : decide ((wrap64 (x7_1 * x7_1)) ≤ t172) = false := decide_eq_false c6; clear c6; obtain ⟨y173, hy173⟩ : ∃ y_ : List Int, y_ = (([] : List Int)) := ⟨_, rfl⟩; replace H : (some (y173, false)) = some (r1, r2) := rH hy173 H; have Ny173 := Aside0.mk hy173; clear hy173; simp only [Option.some.injEq, Prod.mk.injEq] at H; obtain ⟨rfl, rfl⟩ := H
      go_wp2_with (first | ((with_reducible refine gate_callee (f := 62) rfl ?_); refine goesK (some 26) Try.func62 #[.int .i64 (wrap64 ((rd l0 1) * (rd l0 2)))] ?_; (with_reducible refine (spec_l1Size.calls (wrap64 ((rd l0 1) * (rd l0 2))) t172 _ A5.out).mono ?_); rintro e w23 ⟨rfl, hb⟩; refine ⟨_, rfl, ?_⟩; replace HB := BS hb; (try clear hb)) | ((with_reducible refine gate_dst (N := 80) rfl ?_); refine Kd.R_lit (Kd.int .i64) _ 3 ?hg (N := 80) ?hd (xs := ([] : List Int)) (inner := []) (ok := fun _ => True) (okp := fun _ => True) ?hr ?hp (fun _ hk => hk) trivial (Below.refl _ _) (Nat.le_refl _) (by simp) ?_; (case hd => rfl); (case hg => rfl); (case hr => first | (go_simp; done) | (go_simp; rfl)); (case hp => exact (Reps.none _ _)); intro v174 w24 ho25 hb hg_ hnew_; clear hg_ hnew_; (first | rw [← Ny173.out] at ho25 | (simp only [Int.reduceToNat] at ho25; rw [← Ny173.out] at ho25)); have HO175 := Aside0.mk (Kd.R_lower ho25 (below_size BU)); replace HB := BS hb; clear hb ho25))
      go_ret2
      exact ⟨_, eR, U HO175.out, BU⟩

/-! ### spec_l5Three: function 51 -/
def spec_l5Three.f (k : Nat) (l0 : List Int) : Option (List Int × Bool) := (spec_l5Normal.f k l0).bind fun bt181 => ((spec_l5Search.f k bt181.1).bind fun bt187 => (if bt187.2 = true then (if 0 < (bt181.2.length : Int) then (if 0 < (bt187.1.length : Int) then (if 1 < (bt181.2.length : Int) then (if 1 < (bt187.1.length : Int) then (if 2 < (bt181.2.length : Int) then (if 2 < (bt187.1.length : Int) then ((spec_l5Plain.f k (([wrap64 ((rd bt181.2 0) * (rd bt187.1 0)), wrap64 ((rd bt181.2 1) * (rd bt187.1 1)), wrap64 ((rd bt181.2 2) * (rd bt187.1 2))] : List Int))).bind fun t200 => (some (t200, true))) else (none)) else (none)) else (none)) else (none)) else (none)) else (none)) else (some ((([] : List Int)), false))))
theorem spec_l5Three.mono : ∀ a0 k, LeO (spec_l5Three.f k a0) (spec_l5Three.f (k + 1) a0) := by
  intro a0 k
  unfold spec_l5Three.f
  repeat' first
      | (with_reducible exact spec_l5Normal.mono _ _)
      | (with_reducible exact spec_l5Plain.mono _ _)
      | (with_reducible exact spec_l5Search.mono _ _)
      | (with_reducible exact LeO.refl _)
      | (with_reducible exact LeO.none _)
      | (with_reducible refine LeO.ite ?_ ?_)
      | (with_reducible refine LeO.bind ?_ (fun _ => ?_))
      | exact spec_l5Normal.mono _ _
      | exact spec_l5Plain.mono _ _
      | exact spec_l5Search.mono _ _
      | exact LeO.none _
      | refine LeO.ite ?_ ?_
      | refine LeO.bind ?_ (fun _ => ?_)
def spec_l5Three.T5 : Bool × List (List Nat × List Nat) := (true, [([], []), ([0], [0]), ([1], [1]), ([], []), ([3], [3]), ([4], [4]), ([2, 5], [2, 5]), ([], []), ([7], [7]), ([8], [8]), ([], []), ([10], [10]), ([11], [11]), ([9, 12], [9, 12]), ([], []), ([14], [14]), ([15], [15]), ([], []), ([17], [17]), ([18], [18]), ([16, 19], [16, 19]), ([6, 13, 20], [6, 13, 20]), ([21], [21]), ([22, 22, 0, 1, 2, 3, 4, 5, 6, 7, 8, 9, 10, 11, 12, 13, 14, 15, 16, 17, 18, 19, 20, 21, 22], [22]), ([23, 0, 1, 2, 3, 4, 5, 6, 7, 8, 9, 10, 11, 12, 13, 14, 15, 16, 17, 18, 19, 20, 21, 22, 23], [])])
def spec_l5Three.B5 : List Nat := [0, 1, 3, 0, 8, 24, 63, 0, 128, 384, 0, 1024, 3072, 8064, 0, 16384, 49152, 0, 131072, 393216, 1032192, 2097151, 4194303, 8388607, 16777215]
theorem spec_l5Three.tab5 : rtab .any (opsOf Try.f51 5) = spec_l5Three.T5 := by kernel_rfl
theorem spec_l5Three.bits5 : waitsOk spec_l5Three.T5.2 spec_l5Three.B5 = true := by kernel_rfl
set_option maxHeartbeats 8000000 in
set_option maxRecDepth 100000 in
theorem spec_l5Three.calls (k : Nat) (A0 : Option Addr) (c0 : Nat) (l0 : List Int) (r1 : List Int) (r2 : Bool) (w : World) (hr0 : Kd.C (Kd.int .i64) w A0 l0.length l0) (hc0 : l0.length ≤ c0) (h : spec_l5Three.f k l0 = some (r1, r2)) :
    Calls Try.prog 51 #[.slice A0 l0.length c0] w fun e w' => ∃ v0_ : Value, e = .returned (.tuple #[v0_, .bool r2]) ∧ Kd.R (Kd.int .i64) 3 w' w.heap.size (fun _ => True) v0_ r1 ∧ Below w.heap.size w w' := by
  have HR0 := Aside0.mk hr0; have HC0 := Aside0.mk hc0; clear hr0 hc0; have HB := Aside0.mk (Below.refl w.heap.size w); unfold spec_l5Three.f at h; have H := h; clear h; obtain ⟨⟨t181, t182⟩, A2, H⟩ := bnd H
  replace H : ((spec_l5Search.f k t181).bind fun bt187 => (if bt187.2 = true then (if 0 < (t182.length : Int) then (if 0 < (bt187.1.length : Int) then (if 1 < (t182.length : Int) then (if 1 < (bt187.1.length : Int) then (if 2 < (t182.length : Int) then (if 2 < (bt187.1.length : Int) then ((spec_l5Plain.f k (([wrap64 ((rd t182 0) * (rd bt187.1 0)), wrap64 ((rd t182 1) * (rd bt187.1 1)), wrap64 ((rd t182 2) * (rd bt187.1 2))] : List Int))).bind fun t200 => (some (t200, true))) else (none)) else (none)) else (none)) else (none)) else (none)) else (none)) else (some ((([] : List Int)), false)))) = some (r1, r2) := H
  obtain ⟨⟨t187, t188⟩, A3, H⟩ := bnd H
  replace H : (if t188 = true then (if 0 < (t182.length : Int) then (if 0 < (t187.length : Int) then (if 1 < (t182.length : Int) then (if 1 < (t187.length : Int) then (if 2 < (t182.length : Int) then (if 2 < (t187.length : Int) then ((spec_l5Plain.f k (([wrap64 ((rd t182 0) * (rd t187 0)), wrap64 ((rd t182 1) * (rd t187 1)), wrap64 ((rd t182 2) * (rd t187 2))] : List Int))).bind fun t200 => (some (t200, true))) else (none)) else (none)) else (none)) else (none)) else (none)) else (none)) else (some ((([] : List Int)), false))) = some (r1, r2) := H
  by_cases c4 : t188 = true
  · subst c4
    replace H := ifT H; obtain ⟨c5, H⟩ := ifN H; have c5b0 : decide (0 < (t182.length : Int)) = true := decide_eq_true c5; have c5b1 : decide (0 < t182.length) = true := decide_eq_true (by omega); clear c5; obtain ⟨c6, H⟩ := ifN H; have c6b0 : decide (0 < (t187.length : Int)) = true := decide_eq_true c6; have c6b1 : decide (0 < t187.length) = true := decide_eq_true (by omega); clear c6; obtain ⟨c7, H⟩ := ifN H; have c7b0 : decide (1 < (t182.length : Int)) = true := decide_eq_true c7; have c7b1 : decide (1 < t182.length) = true := decide_eq_true (by omega); clear c7; obtain ⟨c8, H⟩ := ifN H; have c8b0 : decide (1 < (t187.length : Int)) = true := decide_eq_true c8; have c8b1 : decide (1 < t187.length) = true := decide_eq_true (by omega); clear c8; obtain ⟨c9, H⟩ := ifN H; have c9b0 : decide (2 < (t182.length : Int)) = true := decide_eq_true c9; have c9b1 : decide (2 < t182.length) = true := decide_eq_true (by omega); clear c9; obtain ⟨c10, H⟩ := ifN H; have c10b0 : decide (2 < (t187.length : Int)) = true := decide_eq_true c10; have c10b1 : decide (2 < t187.length) = true := decide_eq_true (by omega); clear c10; obtain ⟨y197, hy197⟩ : ∃ y_ : List Int, y_ = (([wrap64 ((rd t182 0) * (rd t187 0)), wrap64 ((rd t182 1) * (rd t187 1)), wrap64 ((rd t182 2) * (rd t187 2))] : List Int)) := ⟨_, rfl⟩; replace H : ((spec_l5Plain.f k y197).bind fun t200 => (some (t200, true))) = some (r1, r2) := rH hy197 H; have Ny197 := Aside0.mk hy197; clear hy197; obtain ⟨t200, A11, H⟩ := bnd H; simp only [Option.some.injEq, Prod.mk.injEq] at H; obtain ⟨rfl, rfl⟩ := H; go_enter Try.func51, Try.ntmps51
    try go_wp2_with (first | ((with_reducible refine gate_callee (f := 69) rfl ?_); refine goesK (some 10) Try.func69 #[.slice A0 l0.length c0] ?_; (with_reducible refine (spec_l5Normal.calls k _ _ l0 t181 t182 _ ?side1 ?side2 A2.out).mono ?_); (case side1 => exact U HR0.out); (case side2 => exact HC0.out); rintro e w12 ⟨v183, v185, rfl, ho0, ho1, hb⟩; refine ⟨_, rfl, ?_⟩; have HO184 := Aside0.mk (Kd.R_lower ho0 (below_size BU)); have HO186 := Aside0.mk (Kd.R_lower ho1 (below_size BU)); replace HB := BS hb; (try clear hb); (try clear ho0); (try clear ho1); obtain ⟨Ao13, co13, eo13⟩ := Kd.R_slice HO184.out; subst eo13) | ((with_reducible refine gate_callee (f := 70) rfl ?_); refine goesK (some 15) Try.func70 #[.slice Ao13 t181.length co13] ?_; (with_reducible refine (spec_l5Search.calls k _ _ t181 t187 true _ ?side1 ?side2 A3.out).mono ?_); (case side1 => exact U ((Kd.R_reads' HO184.out).2.2)); (case side2 => exact (Kd.R_reads' HO184.out).2.1); rintro e w14 ⟨v189, rfl, ho0, hb⟩; refine ⟨_, rfl, ?_⟩; have HO190 := Aside0.mk (Kd.R_lower (Kd.R_new' (Kd.R_new' ho0 (Kd.R_lt (U HO184.out))) (Kd.R_lt (U HO186.out))) (below_size BU)); replace HO184 := Aside0.mk (Kd.R_elder' (U HO184.out) (Kd.R_base ho0) hb); replace HO186 := Aside0.mk (Kd.R_elder' (U HO186.out) (Kd.R_base ho0) hb); replace HB := BS hb; (try clear hb); (try clear ho0)))
    replace HO184 := Aside0.mk (Kd.R_drew HO184.out); replace HO186 := Aside0.mk (Kd.R_drew HO186.out); replace HO190 := Aside0.mk (Kd.R_drew HO190.out); replace HB := Aside0.mk (below_drew1 HB.out); obtain ⟨Ao16, co16, eo16⟩ := Kd.R_slice HO186.out
    (first | subst eo16 | (injection eo16 with f1_ f2_ f3_; have f4_ := f1_.symm; have f5_ := f3_.symm; clear f1_ f2_ f3_; subst f4_; subst f5_))
    have p191 : 0 ≤ (0 : Int) := (by omega); have q191 : 0 < (t182.length : Int) := oD; obtain ⟨ad191, e191, hx191_0⟩ := Kd.at_int (Kd.R_reads' HO186.out).2.2 0 p191 q191; cases e191; have qi191 : (0 < t182.length) = True := eq_true (by omega)
    (try rw [show ((0 : Int)).toNat = 0 from rfl] at hx191_0)
    (try rw [Addr.add_zero'] at hx191_0)
    replace p191 := eq_true p191; replace q191 := eq_true q191; obtain ⟨Ao17, co17, eo17⟩ := Kd.R_slice HO190.out
    (first | subst eo17 | (injection eo17 with f1_ f2_ f3_; have f4_ := f1_.symm; have f5_ := f3_.symm; clear f1_ f2_ f3_; subst f4_; subst f5_))
    have p192 : 0 ≤ (0 : Int) := (by omega); have q192 : 0 < (t187.length : Int) := oD; obtain ⟨ad192, e192, hx192_0⟩ := Kd.at_int (Kd.R_reads' HO190.out).2.2 0 p192 q192; cases e192; have qi192 : (0 < t187.length) = True := eq_true (by omega)
    (try rw [show ((0 : Int)).toNat = 0 from rfl] at hx192_0)
    (try rw [Addr.add_zero'] at hx192_0)
    replace p192 := eq_true p192; replace q192 := eq_true q192; have p193 : 0 ≤ (1 : Int) := (by omega); have q193 : 1 < (t182.length : Int) := oD; obtain ⟨ad193, e193, hx193_0⟩ := Kd.at_int (Kd.R_reads' HO186.out).2.2 1 p193 q193; obtain rfl : ad191 = ad193 := (by injection e193)
    (try simp only [show (1 : Int).toNat = 1 from rfl, Nat.reduceMul, Nat.reduceEqDiff, Go.Addr.add, ↓reduceIte] at hx193_0)
    have qi193 : (1 < t182.length) = True := eq_true (by omega)
    (try rw [show ((1 : Int)).toNat = 1 from rfl] at hx193_0)
    replace p193 := eq_true p193; replace q193 := eq_true q193; have p194 : 0 ≤ (1 : Int) := (by omega); have q194 : 1 < (t187.length : Int) := oD; obtain ⟨ad194, e194, hx194_0⟩ := Kd.at_int (Kd.R_reads' HO190.out).2.2 1 p194 q194; obtain rfl : ad192 = ad194 := (by injection e194)
    (try simp only [show (1 : Int).toNat = 1 from rfl, Nat.reduceMul, Nat.reduceEqDiff, Go.Addr.add, ↓reduceIte] at hx194_0)
    have qi194 : (1 < t187.length) = True := eq_true (by omega)
    (try rw [show ((1 : Int)).toNat = 1 from rfl] at hx194_0)
    replace p194 := eq_true p194; replace q194 := eq_true q194; have p195 : 0 ≤ (2 : Int) := (by omega); have q195 : 2 < (t182.length : Int) := oD; obtain ⟨ad195, e195, hx195_0⟩ := Kd.at_int (Kd.R_reads' HO186.out).2.2 2 p195 q195; obtain rfl : ad191 = ad195 := (by injection e195)
    (try simp only [show (2 : Int).toNat = 2 from rfl, Nat.reduceMul, Nat.reduceEqDiff, Go.Addr.add, ↓reduceIte] at hx195_0)
    have qi195 : (2 < t182.length) = True := eq_true (by omega)
    (try rw [show ((2 : Int)).toNat = 2 from rfl] at hx195_0)
    replace p195 := eq_true p195; replace q195 := eq_true q195; have p196 : 0 ≤ (2 : Int) := (by omega); have q196 : 2 < (t187.length : Int) := oD; obtain ⟨ad196, e196, hx196_0⟩ := Kd.at_int (Kd.R_reads' HO190.out).2.2 2 p196 q196; obtain rfl : ad192 = ad196 := (by injection e196)
    (try simp only [show (2 : Int).toNat = 2 from rfl, Nat.reduceMul, Nat.reduceEqDiff, Go.Addr.add, ↓reduceIte] at hx196_0)
    have qi196 : (2 < t187.length) = True := eq_true (by omega)
    (try rw [show ((2 : Int)).toNat = 2 from rfl] at hx196_0)
    replace p196 := eq_true p196; replace q196 := eq_true q196
    refine start_ (n := 25) (S := fun w' => w'.cell? ad191 = some (.int .i64 (rd t182 0)) ∧ w'.cell? ad192 = some (.int .i64 (rd t187 0)) ∧ w'.cell? ⟨ad191.block, ad191.off + 1, none⟩ = some (.int .i64 (rd t182 1)) ∧ w'.cell? ⟨ad192.block, ad192.off + 1, none⟩ = some (.int .i64 (rd t187 1)) ∧ w'.cell? ⟨ad191.block, ad191.off + 2, none⟩ = some (.int .i64 (rd t182 2)) ∧ w'.cell? ⟨ad192.block, ad192.off + 2, none⟩ = some (.int .i64 (rd t187 2))) (ds := []) #[false, false, false, false, false, false, false, false, false, false, false, false, false, false, false, false, false, false, false, false, false, false, false, false, false] (by kernel_rfl) rfl rfl ⟨hx191_0, hx192_0, hx193_0, hx194_0, hx195_0, hx196_0⟩ (fun hHeld => ?_); refine with_tabW spec_l5Three.tab5 spec_l5Three.bits5 (fun HT_ HW_ => ?_)
    generalize w14.drew = w15 at HO184 HO186 HO190 HB hx191_0 hx192_0 hx193_0 hx194_0 hx195_0 hx196_0 hHeld ⊢
    refine pure_ (i := 0) (N := some 21) (v := ?_) (a' := ?_) #[true, false, false, false, false, false, false, false, false, false, false, false, false, false, false, false, false, false, false, false, false, false, false, false, false] rfl rfl (any_of HT_.out (by kernel_rfl)) (fun _ _ _ h => h) (Or.inl ⟨by rfl, ?_⟩) ?_ ?_
    rotate_left
    · intro w'
      go_simp
      with_reducible rfl
    rotate_left
    · simp only [Act.put, List.setIfInBounds_toArray, List.set_cons_zero, List.set_cons_succ, i64_w, i32_w]
      rfl
    refine pure_ (i := 1) (N := some 22) (v := ?_) (a' := ?_) #[true, true, false, false, false, false, false, false, false, false, false, false, false, false, false, false, false, false, false, false, false, false, false, false, false] rfl rfl (any_of HT_.out (by kernel_rfl)) (fun _ _ _ h => h) (Or.inl ⟨by rfl, ?_⟩) ?_ ?_
    rotate_left
    · intro w'
      go_simp
      with_reducible rfl
    rotate_left
    · simp only [Act.put, List.setIfInBounds_toArray, List.set_cons_zero, List.set_cons_succ, i64_w, i32_w]
      rfl
    refine pure_ (i := 3) (N := some 24) (v := ?_) (a' := ?_) #[true, true, false, true, false, false, false, false, false, false, false, false, false, false, false, false, false, false, false, false, false, false, false, false, false] rfl rfl (any_of HT_.out (by kernel_rfl)) (fun _ _ _ h => h) (Or.inl ⟨by rfl, ?_⟩) ?_ ?_
    rotate_left
    · intro w'
      go_simp
      with_reducible rfl
    rotate_left
    · simp only [Act.put, List.setIfInBounds_toArray, List.set_cons_zero, List.set_cons_succ, i64_w, i32_w]
      rfl
    refine pure_ (i := 4) (N := some 25) (v := ?_) (a' := ?_) #[true, true, false, true, true, false, false, false, false, false, false, false, false, false, false, false, false, false, false, false, false, false, false, false, false] rfl rfl (any_of HT_.out (by kernel_rfl)) (fun _ _ _ h => h) (Or.inl ⟨by rfl, ?_⟩) ?_ ?_
    rotate_left
    · intro w'
      go_simp
      with_reducible rfl
    rotate_left
    · simp only [Act.put, List.setIfInBounds_toArray, List.set_cons_zero, List.set_cons_succ, i64_w, i32_w]
      rfl
    refine pure_ (i := 7) (N := some 28) (v := ?_) (a' := ?_) #[true, true, false, true, true, false, false, true, false, false, false, false, false, false, false, false, false, false, false, false, false, false, false, false, false] rfl rfl (any_of HT_.out (by kernel_rfl)) (fun _ _ _ h => h) (Or.inl ⟨by rfl, ?_⟩) ?_ ?_
    rotate_left
    · intro w'
      go_simp
      with_reducible rfl
    rotate_left
    · simp only [Act.put, List.setIfInBounds_toArray, List.set_cons_zero, List.set_cons_succ, i64_w, i32_w]
      rfl
    refine pure_ (i := 8) (N := some 29) (v := ?_) (a' := ?_) #[true, true, false, true, true, false, false, true, true, false, false, false, false, false, false, false, false, false, false, false, false, false, false, false, false] rfl rfl (any_of HT_.out (by kernel_rfl)) (fun _ _ _ h => h) (Or.inl ⟨by rfl, ?_⟩) ?_ ?_
    rotate_left
    · intro w'
      go_simp
      with_reducible rfl
    rotate_left
    · simp only [Act.put, List.setIfInBounds_toArray, List.set_cons_zero, List.set_cons_succ, i64_w, i32_w]
      rfl
    refine pure_ (i := 10) (N := some 31) (v := ?_) (a' := ?_) #[true, true, false, true, true, false, false, true, true, false, true, false, false, false, false, false, false, false, false, false, false, false, false, false, false] rfl rfl (any_of HT_.out (by kernel_rfl)) (fun _ _ _ h => h) (Or.inl ⟨by rfl, ?_⟩) ?_ ?_
    rotate_left
    · intro w'
      go_simp
      with_reducible rfl
    rotate_left
    · simp only [Act.put, List.setIfInBounds_toArray, List.set_cons_zero, List.set_cons_succ, i64_w, i32_w]
      rfl
    refine pure_ (i := 11) (N := some 32) (v := ?_) (a' := ?_) #[true, true, false, true, true, false, false, true, true, false, true, true, false, false, false, false, false, false, false, false, false, false, false, false, false] rfl rfl (any_of HT_.out (by kernel_rfl)) (fun _ _ _ h => h) (Or.inl ⟨by rfl, ?_⟩) ?_ ?_
    rotate_left
    · intro w'
      go_simp
      with_reducible rfl
    rotate_left
    · simp only [Act.put, List.setIfInBounds_toArray, List.set_cons_zero, List.set_cons_succ, i64_w, i32_w]
      rfl
    refine pure_ (i := 14) (N := some 35) (v := ?_) (a' := ?_) #[true, true, false, true, true, false, false, true, true, false, true, true, false, false, true, false, false, false, false, false, false, false, false, false, false] rfl rfl (any_of HT_.out (by kernel_rfl)) (fun _ _ _ h => h) (Or.inl ⟨by rfl, ?_⟩) ?_ ?_
    rotate_left
    · intro w'
      go_simp
      with_reducible rfl
    rotate_left
    · simp only [Act.put, List.setIfInBounds_toArray, List.set_cons_zero, List.set_cons_succ, i64_w, i32_w]
      rfl
    refine pure_ (i := 15) (N := some 36) (v := ?_) (a' := ?_) #[true, true, false, true, true, false, false, true, true, false, true, true, false, false, true, true, false, false, false, false, false, false, false, false, false] rfl rfl (any_of HT_.out (by kernel_rfl)) (fun _ _ _ h => h) (Or.inl ⟨by rfl, ?_⟩) ?_ ?_
    rotate_left
    · intro w'
      go_simp
      with_reducible rfl
    rotate_left
    · simp only [Act.put, List.setIfInBounds_toArray, List.set_cons_zero, List.set_cons_succ, i64_w, i32_w]
      rfl
    refine pure_ (i := 17) (N := some 38) (v := ?_) (a' := ?_) #[true, true, false, true, true, false, false, true, true, false, true, true, false, false, true, true, false, true, false, false, false, false, false, false, false] rfl rfl (any_of HT_.out (by kernel_rfl)) (fun _ _ _ h => h) (Or.inl ⟨by rfl, ?_⟩) ?_ ?_
    rotate_left
    · intro w'
      go_simp
      with_reducible rfl
    rotate_left
    · simp only [Act.put, List.setIfInBounds_toArray, List.set_cons_zero, List.set_cons_succ, i64_w, i32_w]
      rfl
    refine pure_ (i := 18) (N := some 39) (v := ?_) (a' := ?_) #[true, true, false, true, true, false, false, true, true, false, true, true, false, false, true, true, false, true, true, false, false, false, false, false, false] rfl rfl (any_of HT_.out (by kernel_rfl)) (fun _ _ _ h => h) (Or.inl ⟨by rfl, ?_⟩) ?_ ?_
    rotate_left
    · intro w'
      go_simp
      with_reducible rfl
    rotate_left
    · simp only [Act.put, List.setIfInBounds_toArray, List.set_cons_zero, List.set_cons_succ, i64_w, i32_w]
      rfl
    refine take_ (i := 2) (N := some 23) (v := ?_) (a' := ?_) #[true, true, true, true, true, false, false, true, true, false, true, true, false, false, true, true, false, true, true, false, false, false, false, false, false] rfl rfl (take_ofW HT_.out HW_.out (by kernel_rfl)) (fun _ _ _ h => h) (Or.inl ⟨by rfl, ?_⟩) hHeld ?_ ?_
    rotate_left
    · rintro w' ⟨s0, s1, s2, s3, s4, s5⟩
      go_simp
      with_reducible rfl
    rotate_left
    · simp only [Act.put, List.setIfInBounds_toArray, List.set_cons_zero, List.set_cons_succ, i64_w, i32_w]
      rfl
    refine take_ (i := 5) (N := some 26) (v := ?_) (a' := ?_) #[true, true, true, true, true, true, false, true, true, false, true, true, false, false, true, true, false, true, true, false, false, false, false, false, false] rfl rfl (take_ofW HT_.out HW_.out (by kernel_rfl)) (fun _ _ _ h => h) (Or.inl ⟨by rfl, ?_⟩) hHeld ?_ ?_
    rotate_left
    · rintro w' ⟨s0, s1, s2, s3, s4, s5⟩
      go_simp
      with_reducible rfl
    rotate_left
    · simp only [Act.put, List.setIfInBounds_toArray, List.set_cons_zero, List.set_cons_succ, i64_w, i32_w]
      rfl
    refine pure_ (i := 6) (N := some 27) (v := ?_) (a' := ?_) #[true, true, true, true, true, true, true, true, true, false, true, true, false, false, true, true, false, true, true, false, false, false, false, false, false] rfl rfl (any_of HT_.out (by kernel_rfl)) (fun _ _ _ h => h) (Or.inl ⟨by rfl, ?_⟩) ?_ ?_
    rotate_left
    · intro w'
      go_simp
      with_reducible rfl
    rotate_left
    · simp only [Act.put, List.setIfInBounds_toArray, List.set_cons_zero, List.set_cons_succ, i64_w, i32_w]
      rfl
    refine take_ (i := 9) (N := some 30) (v := ?_) (a' := ?_) #[true, true, true, true, true, true, true, true, true, true, true, true, false, false, true, true, false, true, true, false, false, false, false, false, false] rfl rfl (take_ofW HT_.out HW_.out (by kernel_rfl)) (fun _ _ _ h => h) (Or.inl ⟨by rfl, ?_⟩) hHeld ?_ ?_
    rotate_left
    · rintro w' ⟨s0, s1, s2, s3, s4, s5⟩
      go_simp
      with_reducible rfl
    rotate_left
    · simp only [Act.put, List.setIfInBounds_toArray, List.set_cons_zero, List.set_cons_succ, i64_w, i32_w]
      rfl
    refine take_ (i := 12) (N := some 33) (v := ?_) (a' := ?_) #[true, true, true, true, true, true, true, true, true, true, true, true, true, false, true, true, false, true, true, false, false, false, false, false, false] rfl rfl (take_ofW HT_.out HW_.out (by kernel_rfl)) (fun _ _ _ h => h) (Or.inl ⟨by rfl, ?_⟩) hHeld ?_ ?_
    rotate_left
    · rintro w' ⟨s0, s1, s2, s3, s4, s5⟩
      go_simp
      with_reducible rfl
    rotate_left
    · simp only [Act.put, List.setIfInBounds_toArray, List.set_cons_zero, List.set_cons_succ, i64_w, i32_w]
      rfl
    refine pure_ (i := 13) (N := some 34) (v := ?_) (a' := ?_) #[true, true, true, true, true, true, true, true, true, true, true, true, true, true, true, true, false, true, true, false, false, false, false, false, false] rfl rfl (any_of HT_.out (by kernel_rfl)) (fun _ _ _ h => h) (Or.inl ⟨by rfl, ?_⟩) ?_ ?_
    rotate_left
    · intro w'
      go_simp
      with_reducible rfl
    rotate_left
    · simp only [Act.put, List.setIfInBounds_toArray, List.set_cons_zero, List.set_cons_succ, i64_w, i32_w]
      rfl
    refine take_ (i := 16) (N := some 37) (v := ?_) (a' := ?_) #[true, true, true, true, true, true, true, true, true, true, true, true, true, true, true, true, true, true, true, false, false, false, false, false, false] rfl rfl (take_ofW HT_.out HW_.out (by kernel_rfl)) (fun _ _ _ h => h) (Or.inl ⟨by rfl, ?_⟩) hHeld ?_ ?_
    rotate_left
    · rintro w' ⟨s0, s1, s2, s3, s4, s5⟩
      go_simp
      with_reducible rfl
    rotate_left
    · simp only [Act.put, List.setIfInBounds_toArray, List.set_cons_zero, List.set_cons_succ, i64_w, i32_w]
      rfl
    refine take_ (i := 19) (N := some 40) (v := ?_) (a' := ?_) #[true, true, true, true, true, true, true, true, true, true, true, true, true, true, true, true, true, true, true, true, false, false, false, false, false] rfl rfl (take_ofW HT_.out HW_.out (by kernel_rfl)) (fun _ _ _ h => h) (Or.inl ⟨by rfl, ?_⟩) hHeld ?_ ?_
    rotate_left
    · rintro w' ⟨s0, s1, s2, s3, s4, s5⟩
      go_simp
      with_reducible rfl
    rotate_left
    · simp only [Act.put, List.setIfInBounds_toArray, List.set_cons_zero, List.set_cons_succ, i64_w, i32_w]
      rfl
    refine pure_ (i := 20) (N := some 41) (v := ?_) (a' := ?_) #[true, true, true, true, true, true, true, true, true, true, true, true, true, true, true, true, true, true, true, true, true, false, false, false, false] rfl rfl (any_of HT_.out (by kernel_rfl)) (fun _ _ _ h => h) (Or.inl ⟨by rfl, ?_⟩) ?_ ?_
    rotate_left
    · intro w'
      go_simp
      with_reducible rfl
    rotate_left
    · simp only [Act.put, List.setIfInBounds_toArray, List.set_cons_zero, List.set_cons_succ, i64_w, i32_w]
      rfl
    refine one_ (i := 21) (N := some 42) #[true, true, true, true, true, true, true, true, true, true, true, true, true, true, true, true, true, true, true, true, true, true, false, false, false] rfl rfl (one_of HT_.out (by kernel_rfl)) (by decide) (fun K hK => ?_)
    refine Kd.R_lit_step (Kd.int .i64) _ 3 ?hg (N := 42) ?hd (xs := ([wrap64 ((rd t182 0) * (rd t187 0)), wrap64 ((rd t182 1) * (rd t187 1)), wrap64 ((rd t182 2) * (rd t187 2))] : List Int)) (inner := [.int .i64 (wrap64 ((rd t182 0) * (rd t187 0))), .int .i64 (wrap64 ((rd t182 1) * (rd t187 1))), .int .i64 (wrap64 ((rd t182 2) * (rd t187 2)))]) (ok := fun _ => True) (okp := fun _ => True) ?hr ?hp (fun _ hk => hk) trivial (Below.refl _ _) (Nat.le_refl _) (by simp) ?_; (case hd => rfl); (case hg => rfl); (case hr => first | (go_simp; done) | (go_simp; rfl)); (case hp => exact (Reps.one (show Kd.M (Kd.int .i64) _ _ _ (wrap64 ((rd t182 0) * (rd t187 0))) [.int .i64 (wrap64 ((rd t182 0) * (rd t187 0)))] from rfl) (Reps.one (show Kd.M (Kd.int .i64) _ _ _ (wrap64 ((rd t182 1) * (rd t187 1))) [.int .i64 (wrap64 ((rd t182 1) * (rd t187 1)))] from rfl) (Reps.one (show Kd.M (Kd.int .i64) _ _ _ (wrap64 ((rd t182 2) * (rd t187 2))) [.int .i64 (wrap64 ((rd t182 2) * (rd t187 2)))] from rfl) (Reps.none _ _)))))
    intro v198 w18 ho19 hb hg_ hnew_; have HS0_ := (hb.cell (World.block_lt_of_cell? _ _ (hHeld.1))).trans (hHeld.1); have HS1_ := (hb.cell (World.block_lt_of_cell? _ _ (hHeld.2.1))).trans (hHeld.2.1); have HS2_ := (hb.cell (World.block_lt_of_cell? _ _ (hHeld.2.2.1))).trans (hHeld.2.2.1); have HS3_ := (hb.cell (World.block_lt_of_cell? _ _ (hHeld.2.2.2.1))).trans (hHeld.2.2.2.1); have HS4_ := (hb.cell (World.block_lt_of_cell? _ _ (hHeld.2.2.2.2.1))).trans (hHeld.2.2.2.2.1); have HS5_ := (hb.cell (World.block_lt_of_cell? _ _ (hHeld.2.2.2.2.2))).trans (hHeld.2.2.2.2.2); clear hg_ hnew_
    (first | rw [← Ny197.out] at ho19 | (simp only [Int.reduceToNat] at ho19; rw [← Ny197.out] at ho19))
    have HO199 := Aside0.mk (Kd.R_lower (Kd.R_new' (Kd.R_new' (Kd.R_new' ho19 (Kd.R_lt (U HO184.out))) (Kd.R_lt (U HO186.out))) (Kd.R_lt (U HO190.out))) (below_size BU)); replace HO184 := Aside0.mk (Kd.R_elder' (U HO184.out) (Kd.R_base ho19) hb); replace HO186 := Aside0.mk (Kd.R_elder' (U HO186.out) (Kd.R_base ho19) hb); replace HO190 := Aside0.mk (Kd.R_elder' (U HO190.out) (Kd.R_base ho19) hb); replace HB := BS hb; clear hb ho19; obtain ⟨Ao20, co20, eo20⟩ := Kd.R_slice HO199.out
    (first | subst eo20 | (injection eo20 with f1_ f2_ f3_; have f4_ := f1_.symm; have f5_ := f3_.symm; clear f1_ f2_ f3_; subst f4_; subst f5_))
    refine hK.out _ _ ⟨HS0_, HS1_, HS2_, HS3_, HS4_, HS5_⟩ (fun hHeld => ?_)
    clear hK K
    refine norm_ (a' := ?_) ?_ ?_
    rotate_left
    · show Act.put _ (some 42) _ = _
      simp only [Act.put, List.setIfInBounds_toArray, List.set_cons_zero, List.set_cons_succ, i64_w, i32_w]
      rfl
    refine one_ (i := 22) (N := some 43) #[true, true, true, true, true, true, true, true, true, true, true, true, true, true, true, true, true, true, true, true, true, true, true, false, false] rfl rfl (one_of HT_.out (by kernel_rfl)) (by decide) (fun K hK => ?_)
    refine goes_ Try.func50 (by kernel_rfl) rfl #[.slice Ao20 y197.length co20] (by rfl) rfl rfl (by (try simp only [List.map_toArray, List.map_cons, List.map_nil]); first | done | rfl | (simp only [List.length_drop, List.length_take]; rfl)) ?_
    with_reducible refine (spec_l5Plain.calls k _ _ y197 t200 _ ?side1 ?side2 A11.out).mono ?_
    (case side1 => exact U ((Kd.R_reads' HO199.out).2.2))
    (case side2 => exact (Kd.R_reads' HO199.out).2.1)
    rintro e w21 ⟨v201, rfl, ho0, hb⟩; have HS0_ := (hb.cell (World.block_lt_of_cell? _ _ (hHeld.1))).trans (hHeld.1); have HS1_ := (hb.cell (World.block_lt_of_cell? _ _ (hHeld.2.1))).trans (hHeld.2.1); have HS2_ := (hb.cell (World.block_lt_of_cell? _ _ (hHeld.2.2.1))).trans (hHeld.2.2.1); have HS3_ := (hb.cell (World.block_lt_of_cell? _ _ (hHeld.2.2.2.1))).trans (hHeld.2.2.2.1); have HS4_ := (hb.cell (World.block_lt_of_cell? _ _ (hHeld.2.2.2.2.1))).trans (hHeld.2.2.2.2.1); have HS5_ := (hb.cell (World.block_lt_of_cell? _ _ (hHeld.2.2.2.2.2))).trans (hHeld.2.2.2.2.2)
    refine ⟨_, rfl, ?_⟩
    have HO202 := Aside0.mk (Kd.R_lower (Kd.R_new' (Kd.R_new' (Kd.R_new' (Kd.R_new' ho0 (Kd.R_lt (U HO184.out))) (Kd.R_lt (U HO186.out))) (Kd.R_lt (U HO190.out))) (Kd.R_lt (U HO199.out))) (below_size BU)); replace HO184 := Aside0.mk (Kd.R_elder' (U HO184.out) (Kd.R_base ho0) hb); replace HO186 := Aside0.mk (Kd.R_elder' (U HO186.out) (Kd.R_base ho0) hb); replace HO190 := Aside0.mk (Kd.R_elder' (U HO190.out) (Kd.R_base ho0) hb); replace HO199 := Aside0.mk (Kd.R_elder' (U HO199.out) (Kd.R_base ho0) hb); replace HB := BS hb; (try clear hb); (try clear hb2); (try clear hk); (try clear hi); (try clear ho0)
    refine hK.out _ _ ⟨HS0_, HS1_, HS2_, HS3_, HS4_, HS5_⟩ (fun hHeld => ?_)
    clear hK K
    refine norm_ (a' := ?_) ?_ ?_
    rotate_left
    · show Act.put _ (some 43) _ = _
      simp only [Act.put, List.setIfInBounds_toArray, List.set_cons_zero, List.set_cons_succ, i64_w, i32_w]
      rfl
    refine pure_ (i := 23) (N := some 2) (v := ?_) (a' := ?_) #[true, true, true, true, true, true, true, true, true, true, true, true, true, true, true, true, true, true, true, true, true, true, true, true, false] rfl rfl (any_of HT_.out (by kernel_rfl)) (fun _ _ _ h => h) (Or.inl ⟨by rfl, ?_⟩) ?_ ?_
    rotate_left
    · intro w'
      go_simp
      with_reducible rfl
    rotate_left
    · simp only [Act.put, List.setIfInBounds_toArray, List.set_cons_zero, List.set_cons_succ, i64_w, i32_w]
      rfl
    refine pure_ (i := 24) (N := some 3) (v := ?_) (a' := ?_) #[true, true, true, true, true, true, true, true, true, true, true, true, true, true, true, true, true, true, true, true, true, true, true, true, true] rfl rfl (any_of HT_.out (by kernel_rfl)) (fun _ _ _ h => h) (Or.inl ⟨by rfl, ?_⟩) ?_ ?_
    rotate_left
    · intro w'
      go_simp
      with_reducible rfl
    rotate_left
    · simp only [Act.put, List.setIfInBounds_toArray, List.set_cons_zero, List.set_cons_succ, i64_w, i32_w]
      rfl
    refine done_ (done_of HT_.out (by kernel_rfl)) ?_
    try go_wp2
    go_ret2
    exact ⟨_, eR, Kd.RM HO202.out (fun _ hk => trivial), BU⟩
  replace c4 := Bool.eq_false_iff.mpr c4; subst c4; replace H := ifF H; obtain ⟨y203, hy203⟩ : ∃ y_ : List Int, y_ = (([] : List Int)) := ⟨_, rfl⟩; replace H : (some (y203, false)) = some (r1, r2) := rH hy203 H; have Ny203 := Aside0.mk hy203; clear hy203; simp only [Option.some.injEq, Prod.mk.injEq] at H; obtain ⟨rfl, rfl⟩ := H; go_enter Try.func51, Try.ntmps51
  go_wp2_with (first | ((with_reducible refine gate_callee (f := 69) rfl ?_); refine goesK (some 10) Try.func69 #[.slice A0 l0.length c0] ?_; (with_reducible refine (spec_l5Normal.calls k _ _ l0 t181 t182 _ ?side1 ?side2 A2.out).mono ?_); (case side1 => exact U HR0.out); (case side2 => exact HC0.out); rintro e w22 ⟨v183, v185, rfl, ho0, ho1, hb⟩; refine ⟨_, rfl, ?_⟩; have HO184 := Aside0.mk (Kd.R_lower ho0 (below_size BU)); have HO186 := Aside0.mk (Kd.R_lower ho1 (below_size BU)); replace HB := BS hb; (try clear hb); (try clear ho0); (try clear ho1); obtain ⟨Ao23, co23, eo23⟩ := Kd.R_slice HO184.out; subst eo23) | ((with_reducible refine gate_callee (f := 70) rfl ?_); refine goesK (some 15) Try.func70 #[.slice Ao23 t181.length co23] ?_; (with_reducible refine (spec_l5Search.calls k _ _ t181 t187 false _ ?side1 ?side2 A3.out).mono ?_); (case side1 => exact U ((Kd.R_reads' HO184.out).2.2)); (case side2 => exact (Kd.R_reads' HO184.out).2.1); rintro e w24 ⟨v189, rfl, ho0, hb⟩; refine ⟨_, rfl, ?_⟩; have HO190 := Aside0.mk (Kd.R_lower (Kd.R_new' (Kd.R_new' ho0 (Kd.R_lt (U HO184.out))) (Kd.R_lt (U HO186.out))) (below_size BU)); replace HO184 := Aside0.mk (Kd.R_elder' (U HO184.out) (Kd.R_base ho0) hb); replace HO186 := Aside0.mk (Kd.R_elder' (U HO186.out) (Kd.R_base ho0) hb); replace HB := BS hb; (try clear hb); (try clear ho0)) | ((with_reducible refine gate_dst (N := 20) rfl ?_); refine Kd.R_lit (Kd.int .i64) _ 3 ?hg (N := 20) ?hd (xs := ([] : List Int)) (inner := []) (ok := fun _ => True) (okp := fun _ => True) ?hr ?hp (fun _ hk => hk) trivial (Below.refl _ _) (Nat.le_refl _) (by simp) ?_; (case hd => rfl); (case hg => rfl); (case hr => first | (go_simp; done) | (go_simp; rfl)); (case hp => exact (Reps.none _ _)); intro v204 w25 ho26 hb hg_ hnew_; clear hg_ hnew_; (first | rw [← Ny203.out] at ho26 | (simp only [Int.reduceToNat] at ho26; rw [← Ny203.out] at ho26)); have HO205 := Aside0.mk (Kd.R_lower (Kd.R_new' (Kd.R_new' (Kd.R_new' ho26 (Kd.R_lt (U HO184.out))) (Kd.R_lt (U HO186.out))) (Kd.R_lt (U HO190.out))) (below_size BU)); replace HO184 := Aside0.mk (Kd.R_elder' (U HO184.out) (Kd.R_base ho26) hb); replace HO186 := Aside0.mk (Kd.R_elder' (U HO186.out) (Kd.R_base ho26) hb); replace HO190 := Aside0.mk (Kd.R_elder' (U HO190.out) (Kd.R_base ho26) hb); replace HB := BS hb; clear hb ho26))
  go_ret2
  exact ⟨_, eR, Kd.RM HO205.out (fun _ hk => trivial), BU⟩

end Go.Proofs.Ytpjgcjkodmkemaa.PFnZero
