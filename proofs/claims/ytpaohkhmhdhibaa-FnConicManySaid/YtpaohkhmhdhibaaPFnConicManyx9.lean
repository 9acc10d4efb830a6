-- Written by a program of this session (wip/print2.py): the functions that the law reaches, plain, and the walks.
import Derived.Test.YtpaohkhmhdhibaaPFnConicManyx0
import Derived.Test.YtpaohkhmhdhibaaPFnConicManyx5
namespace Go.Proofs.Ytpaohkhmhdhibaa.PFnConicMany
open Go.RowKit Go.Proofs.YtpaohkhmhdhibaaW.PrintWords Go.Proofs.YtpaohkhmhdhibaaW.PrintLast Go.Proofs.YtpaohkhmhdhibaaW.PrintMore
attribute [local go_sem] max2_int min2_int max_two min_two max_three min_three max_four min_four   -- for this text's walks alone
set_option linter.unusedVariables false
set_option linter.unusedSimpArgs false

/-! ### spec_l5Root: function 73 -/
def spec_l5Root.l0 : Nat → Int → Int → Int → Option (Int)
  | 0, _, _, _ => none
  | k + 1, x0, x3, x4 => if x3 < x4 then (if (wrap64 ((wrap64 (Int.tdiv (wrap64 (x3 + x4)) 2)) * (wrap64 (Int.tdiv (wrap64 (x3 + x4)) 2)))) < x0 then (spec_l5Root.l0 k x0 (wrap64 ((wrap64 (Int.tdiv (wrap64 (x3 + x4)) 2)) + 1)) x4) else (spec_l5Root.l0 k x0 x3 (wrap64 (Int.tdiv (wrap64 (x3 + x4)) 2)))) else (if (wrap64 (x3 * x3)) = x0 then (some x3) else (some (-1)))
def spec_l5Root.f (k : Nat) (a0 : Int) : Option (Int) := spec_l5Root.l0 k a0 0 1048576
theorem spec_l5Root.mono_l : ∀ k, (∀ y0 y1 y2, LeO (spec_l5Root.l0 k y0 y1 y2) (spec_l5Root.l0 (k + 1) y0 y1 y2))
  | 0 => fun _ _ _ r h => by simp [spec_l5Root.l0] at h
  | k + 1 => by
    have ih0 := spec_l5Root.mono_l k
    · intro y0 y1 y2
      unfold spec_l5Root.l0
      repeat' first
      | (with_reducible exact ih0 _ _ _)
      | (with_reducible exact LeO.refl _)
      | (with_reducible exact LeO.none _)
      | (with_reducible refine LeO.ite ?_ ?_)
      | (with_reducible refine LeO.bind ?_ (fun _ => ?_))
      | exact ih0 _ _ _
      | exact LeO.none _
      | refine LeO.ite ?_ ?_
      | refine LeO.bind ?_ (fun _ => ?_)
theorem spec_l5Root.mono : ∀ a0 k, LeO (spec_l5Root.f k a0) (spec_l5Root.f (k + 1) a0) := by
  intro a0 k
  have ih0 := spec_l5Root.mono_l k
  unfold spec_l5Root.f
  repeat' first
      | (with_reducible exact ih0 _ _ _)
      | (with_reducible exact LeO.refl _)
      | (with_reducible exact LeO.none _)
      | (with_reducible refine LeO.ite ?_ ?_)
      | (with_reducible refine LeO.bind ?_ (fun _ => ?_))
      | exact ih0 _ _ _
      | exact LeO.none _
      | refine LeO.ite ?_ ?_
      | refine LeO.bind ?_ (fun _ => ?_)
set_option maxHeartbeats 8000000 in
set_option maxRecDepth 100000 in
theorem spec_l5Root.calls (k : Nat) (a0 : Int) (r : Int) (w : World) (h : spec_l5Root.f k a0 = some r) :
    Calls Try.prog 73 #[.int .i64 a0] w fun e w' => e = .returned (.int .i64 r) ∧ Drawn0 w w' := by
  unfold spec_l5Root.f at h; have H := h; clear h; have H' := Aside0.mk H; clear H; go_enter Try.func73, Try.ntmps73
  go_wp2
  go_loopg [3, 4] k (fun kq v3 v4 w' => ∃ (x3_1 : Int) (x4_1 : Int), v3 = .int .i64 x3_1 ∧ v4 = .int .i64 x4_1 ∧ Aside0 (spec_l5Root.l0 kq a0 x3_1 x4_1 = some r) ∧ Aside0 (kq ≤ k) ∧ Drawn0 w w')
  case atStart => exact ⟨(0), (1048576), sR, sR, H', ⟨Nat.le_refl _⟩, by repeat (first | exact Drawn0.refl _ | apply Drawn0.step)⟩
  case round =>
    clear H'; obtain ⟨x3_1, x4_1, rfl, rfl, HA, HK1, ⟨m1, rfl⟩⟩ := hrel; cases gk with
    | zero => exact absurd HA.out (by simp [spec_l5Root.l0])
    | succ k1 =>
      have H := HA.out; clear HA; simp only [spec_l5Root.l0] at H
      by_cases c2 : x3_1 < x4_1
      · rw [if_pos c2] at H
        have c2b0 : decide (x3_1 < x4_1) = true := decide_eq_true c2; clear c2
        by_cases c3 : (wrap64 ((wrap64 (Int.tdiv (wrap64 (x3_1 + x4_1)) 2)) * (wrap64 (Int.tdiv (wrap64 (x3_1 + x4_1)) 2)))) < a0
        · rw [if_pos c3] at H
          have c3b0 : decide ((wrap64 ((wrap64 (Int.tdiv (wrap64 (x3_1 + x4_1)) 2)) * (wrap64 (Int.tdiv (wrap64 (x3_1 + x4_1)) 2)))) < a0) = true := decide_eq_true c3; clear c3; have H' := Aside0.mk H; clear H
          go_wp2
          go_roundg k1
          case measure => have := HK1.out; omega
          case rel => exact ⟨(wrap64 ((wrap64 (Int.tdiv (wrap64 (x3_1 + x4_1)) 2)) + 1)), (x4_1), sR, sR, H', ⟨by have := HK1.out; omega⟩, by repeat (first | exact Drawn0.refl _ | apply Drawn0.step)⟩
        rw [if_neg c3] at H; have c3b0 : decide ((wrap64 ((wrap64 (Int.tdiv (wrap64 (x3_1 + x4_1)) 2)) * (wrap64 (Int.tdiv (wrap64 (x3_1 + x4_1)) 2)))) < a0) = false := decide_eq_false c3; clear c3; have H' := Aside0.mk H; clear H
        go_wp2
        go_roundg k1
        case measure => have := HK1.out; omega
        case rel => exact ⟨(x3_1), (wrap64 (Int.tdiv (wrap64 (x3_1 + x4_1)) 2)), sR, sR, H', ⟨by have := HK1.out; omega⟩, by repeat (first | exact Drawn0.refl _ | apply Drawn0.step)⟩
      rw [if_neg c2] at H; have c2b0 : decide (x3_1 < x4_1) = false := decide_eq_false c2; clear c2
      by_cases c4 : (wrap64 (x3_1 * x3_1)) = a0
      · rw [if_pos c4] at H
        have c4b0 : ((wrap64 (x3_1 * x3_1)) == a0) = true := beq_iff_eq.mpr c4; have c4b1 : ((wrap64 (x3_1 * x3_1)) != a0) = false := bne_eq_false_iff_eq.mpr c4; clear c4; obtain rfl := Option.some.inj H
        go_wp2
        go_ret
        exact ⟨by first | rfl | (simp; done) | (simp [*]; done), by repeat (first | exact Drawn0.refl _ | apply Drawn0.step)⟩
      rw [if_neg c4] at H; have c4b0 : ((wrap64 (x3_1 * x3_1)) == a0) = false := beq_eq_false_iff_ne.mpr c4; have c4b1 : ((wrap64 (x3_1 * x3_1)) != a0) = true := bne_iff_ne.mpr c4; obtain rfl := Option.some.inj H
      go_wp2
      go_ret
      exact ⟨by first | rfl | (simp; done) | (simp [*]; done), by repeat (first | exact Drawn0.refl _ | apply Drawn0.step)⟩

/-! ### spec_l5Search: function 71 -/
mutual
def spec_l5Search.l0 : Nat → Int → Int → Int → Int → Option (List Int × Bool)
  | 0, _, _, _, _ => none
  | k + 1, x4, x5, x6, x7 => (spec_l1Size.f (wrap64 (x5 * x6))).bind fun t319 => (if (wrap64 (x7 * x7)) ≤ t319 then (spec_l5Search.l1 k x4 x5 x6 x7 0) else (some ((([] : List Int)), false)))
def spec_l5Search.l1 : Nat → Int → Int → Int → Int → Int → Option (List Int × Bool)
  | 0, _, _, _, _, _ => none
  | k + 1, x4, x5, x6, x7, x8 => (spec_l1Size.f (wrap64 (x4 * x6))).bind fun t323 => (if (wrap64 (x8 * x8)) ≤ t323 then (if x6 = 0 then (none) else (if (Int.tmod (wrap64 ((wrap64 (-(wrap64 ((wrap64 (x4 * x7)) * x7)))) - (wrap64 ((wrap64 (x5 * x8)) * x8)))) x6) = 0 then (if (wrap64 (Int.tdiv (wrap64 ((wrap64 (-(wrap64 ((wrap64 (x4 * x7)) * x7)))) - (wrap64 ((wrap64 (x5 * x8)) * x8)))) x6)) < 0 then (spec_l5Search.j2 k x4 x5 x6 x7 x8 (wrap64 ((wrap64 (-(wrap64 ((wrap64 (x4 * x7)) * x7)))) - (wrap64 ((wrap64 (x5 * x8)) * x8)))) true) else (if x7 = 0 then (spec_l5Search.j2 k x4 x5 x6 x7 x8 (wrap64 ((wrap64 (-(wrap64 ((wrap64 (x4 * x7)) * x7)))) - (wrap64 ((wrap64 (x5 * x8)) * x8)))) (x8 == 0)) else (spec_l5Search.j2 k x4 x5 x6 x7 x8 (wrap64 ((wrap64 (-(wrap64 ((wrap64 (x4 * x7)) * x7)))) - (wrap64 ((wrap64 (x5 * x8)) * x8)))) false))) else (spec_l5Search.j2 k x4 x5 x6 x7 x8 (wrap64 ((wrap64 (-(wrap64 ((wrap64 (x4 * x7)) * x7)))) - (wrap64 ((wrap64 (x5 * x8)) * x8)))) true))) else (spec_l5Search.l0 k x4 x5 x6 (wrap64 (x7 + 1))))
def spec_l5Search.j2 : Nat → Int → Int → Int → Int → Int → Int → Bool → Option (List Int × Bool)
  | 0, _, _, _, _, _, _, _ => none
  | k + 1, x4, x5, x6, x7, x8, x9, x69 => if x69 = true then (spec_l5Search.l1 k x4 x5 x6 x7 (wrap64 (x8 + 1))) else (if x6 = 0 then (none) else ((spec_l5Root.f k (wrap64 (Int.tdiv x9 x6))).bind fun t324 => (if t324 ≥ 0 then (some ((([x7, x8, t324] : List Int)), true)) else (spec_l5Search.l1 k x4 x5 x6 x7 (wrap64 (x8 + 1))))))
end
def spec_l5Search.f (k : Nat) (l0 : List Int) : Option (List Int × Bool) := if 0 < (l0.length : Int) then (if 1 < (l0.length : Int) then (if 2 < (l0.length : Int) then (spec_l5Search.l0 k (rd l0 0) (rd l0 1) (rd l0 2) 0) else (none)) else (none)) else (none)
theorem spec_l5Search.mono_l : ∀ k, (∀ y0 y1 y2 y3, LeO (spec_l5Search.l0 k y0 y1 y2 y3) (spec_l5Search.l0 (k + 1) y0 y1 y2 y3)) ∧ (∀ y0 y1 y2 y3 y4, LeO (spec_l5Search.l1 k y0 y1 y2 y3 y4) (spec_l5Search.l1 (k + 1) y0 y1 y2 y3 y4)) ∧ (∀ y0 y1 y2 y3 y4 y5 y6, LeO (spec_l5Search.j2 k y0 y1 y2 y3 y4 y5 y6) (spec_l5Search.j2 (k + 1) y0 y1 y2 y3 y4 y5 y6))
  | 0 => ⟨fun _ _ _ _ r h => by simp [spec_l5Search.l0] at h, fun _ _ _ _ _ r h => by simp [spec_l5Search.l1] at h, fun _ _ _ _ _ _ _ r h => by simp [spec_l5Search.j2] at h⟩
  | k + 1 => by
    obtain ⟨ih0, ih1, ih2⟩ := spec_l5Search.mono_l k
    refine ⟨?_, ?_, ?_⟩ <;> intros <;> (first | unfold spec_l5Search.l0 | unfold spec_l5Search.l1 | unfold spec_l5Search.j2) <;> (repeat' first
      | (with_reducible exact ih0 _ _ _ _)
      | (with_reducible exact ih1 _ _ _ _ _)
      | (with_reducible exact ih2 _ _ _ _ _ _ _)
      | (with_reducible exact spec_l5Root.mono _ _)
      | (with_reducible exact LeO.refl _)
      | (with_reducible exact LeO.none _)
      | (with_reducible refine LeO.ite ?_ ?_)
      | (with_reducible refine LeO.bind ?_ (fun _ => ?_))
      | exact ih0 _ _ _ _
      | exact ih1 _ _ _ _ _
      | exact ih2 _ _ _ _ _ _ _
      | exact spec_l5Root.mono _ _
      | exact LeO.none _
      | refine LeO.ite ?_ ?_
      | refine LeO.bind ?_ (fun _ => ?_))
theorem spec_l5Search.mono : ∀ a0 k, LeO (spec_l5Search.f k a0) (spec_l5Search.f (k + 1) a0) := by
  intro a0 k
  obtain ⟨ih0, ih1, ih2⟩ := spec_l5Search.mono_l k
  unfold spec_l5Search.f
  repeat' first
      | (with_reducible exact ih0 _ _ _ _)
      | (with_reducible exact ih1 _ _ _ _ _)
      | (with_reducible exact ih2 _ _ _ _ _ _ _)
      | (with_reducible exact spec_l5Root.mono _ _)
      | (with_reducible exact LeO.refl _)
      | (with_reducible exact LeO.none _)
      | (with_reducible refine LeO.ite ?_ ?_)
      | (with_reducible refine LeO.bind ?_ (fun _ => ?_))
      | exact ih0 _ _ _ _
      | exact ih1 _ _ _ _ _
      | exact ih2 _ _ _ _ _ _ _
      | exact spec_l5Root.mono _ _
      | exact LeO.none _
      | refine LeO.ite ?_ ?_
      | refine LeO.bind ?_ (fun _ => ?_)
set_option maxHeartbeats 8000000 in
set_option maxRecDepth 100000 in
theorem spec_l5Search.calls (k : Nat) (A0 : Option Addr) (c0 : Nat) (l0 : List Int) (r1 : List Int) (r2 : Bool) (w : World) (hr0 : Kd.C (Kd.int .i64) w A0 l0.length l0) (hc0 : l0.length ≤ c0) (h : spec_l5Search.f k l0 = some (r1, r2)) :
    Calls Try.prog 71 #[.slice A0 l0.length c0] w fun e w' => ∃ v0_ : Value, e = .returned (.tuple #[v0_, .bool r2]) ∧ Kd.R (Kd.int .i64) 3 w' w.heap.size (fun _ => True) v0_ r1 ∧ Below w.heap.size w w' := by
  have HR0 := Aside0.mk hr0; have HC0 := Aside0.mk hc0; clear hr0 hc0; have HB := Aside0.mk (Below.refl w.heap.size w); unfold spec_l5Search.f at h; have H := h; clear h; obtain ⟨c2, H⟩ := ifN H; have c2b0 : decide (0 < (l0.length : Int)) = true := decide_eq_true c2; have c2b1 : decide (0 < l0.length) = true := decide_eq_true (by omega); clear c2; obtain ⟨c3, H⟩ := ifN H; have c3b0 : decide (1 < (l0.length : Int)) = true := decide_eq_true c3; have c3b1 : decide (1 < l0.length) = true := decide_eq_true (by omega); clear c3; obtain ⟨c4, H⟩ := ifN H; have c4b0 : decide (2 < (l0.length : Int)) = true := decide_eq_true c4; have c4b1 : decide (2 < l0.length) = true := decide_eq_true (by omega); clear c4; have H' := Aside0.mk H; clear H; have p316 : 0 ≤ (0 : Int) := (by omega); have q316 : 0 < (l0.length : Int) := oD; obtain ⟨ad316, e316, hx316_0⟩ := Kd.at_int HR0.out 0 p316 q316; cases e316; have qi316 : (0 < l0.length) = True := eq_true (by omega)
  (try rw [show ((0 : Int)).toNat = 0 from rfl] at hx316_0)
  (try rw [Addr.add_zero'] at hx316_0)
  replace p316 := eq_true p316; replace q316 := eq_true q316; have p317 : 0 ≤ (1 : Int) := (by omega); have q317 : 1 < (l0.length : Int) := oD; obtain ⟨ad317, e317, hx317_0⟩ := Kd.at_int HR0.out 1 p317 q317; obtain rfl : ad316 = ad317 := (by injection e317)
  (try simp only [show (1 : Int).toNat = 1 from rfl, Nat.reduceMul, Nat.reduceEqDiff, Go.Addr.add, ↓reduceIte] at hx317_0)
  have qi317 : (1 < l0.length) = True := eq_true (by omega)
  (try rw [show ((1 : Int)).toNat = 1 from rfl] at hx317_0)
  replace p317 := eq_true p317; replace q317 := eq_true q317; have p318 : 0 ≤ (2 : Int) := (by omega); have q318 : 2 < (l0.length : Int) := oD; obtain ⟨ad318, e318, hx318_0⟩ := Kd.at_int HR0.out 2 p318 q318; obtain rfl : ad316 = ad318 := (by injection e318)
  (try simp only [show (2 : Int).toNat = 2 from rfl, Nat.reduceMul, Nat.reduceEqDiff, Go.Addr.add, ↓reduceIte] at hx318_0)
  have qi318 : (2 < l0.length) = True := eq_true (by omega)
  (try rw [show ((2 : Int)).toNat = 2 from rfl] at hx318_0)
  replace p318 := eq_true p318; replace q318 := eq_true q318; go_enter Try.func71, Try.ntmps71
  go_wp2
  go_loopg [7] k (fun kq v7 w' => ∃ (x7_1 : Int), v7 = .int .i64 x7_1 ∧ Aside0 (spec_l5Search.l0 kq (rd l0 0) (rd l0 1) (rd l0 2) x7_1 = some (r1, r2)) ∧ Aside0 (kq ≤ k) ∧ Aside0 (Below w.heap.size w w'))
  case atStart => exact ⟨(0), sR, H', ⟨Nat.le_refl _⟩, ⟨BU⟩⟩
  case round =>
    clear H'; (try clear c2); (try clear c2b0); (try clear c2b1); (try clear c3); (try clear c3b0); (try clear c3b1); (try clear c4); (try clear c4b0); (try clear c4b1); (try clear hx316_0); (try clear hx317_0); (try clear hx318_0); (try clear p316); (try clear p317); (try clear p318); (try clear q316); (try clear q317); (try clear q318); obtain ⟨x7_1, rfl, HA, HK1, HB⟩ := hrel; cases gk with
    | zero => exact absurd HA.out (by simp [spec_l5Search.l0])
    | succ k1 =>
      have H := HA.out; clear HA; simp only [spec_l5Search.l0] at H; obtain ⟨t319, A5, H⟩ := bnd H
      by_cases c6 : (wrap64 (x7_1 * x7_1)) ≤ t319
      · rw [if_pos c6] at H
        have c6b0 : decide ((wrap64 (x7_1 * x7_1)) ≤ t319) = true := decide_eq_true c6; clear c6; have H' := Aside0.mk H; clear H
        go_wp2_with (first | ((with_reducible refine gate_callee (f := 62) rfl ?_); refine goesK (some 26) Try.func62 #[.int .i64 (wrap64 ((rd l0 1) * (rd l0 2)))] ?_; (with_reducible refine (spec_l1Size.calls (wrap64 ((rd l0 1) * (rd l0 2))) t319 _ A5.out).mono ?_); rintro e w7 ⟨rfl, hb⟩; refine ⟨_, rfl, ?_⟩; replace HB := BS hb; (try clear hb)))
        go_loopg [8] k1 (fun kq v8 w' => ∃ (x8_2 : Int), v8 = .int .i64 x8_2 ∧ Aside0 (spec_l5Search.l1 kq (rd l0 0) (rd l0 1) (rd l0 2) x7_1 x8_2 = some (r1, r2)) ∧ Aside0 (kq ≤ k1) ∧ Aside0 (Below w.heap.size w w'))
        case atStart => exact ⟨(0), sR, H', ⟨Nat.le_refl _⟩, ⟨BU⟩⟩
        case round =>
          clear H'; (try clear c2); (try clear c2b0); (try clear c2b1); (try clear c3); (try clear c3b0); (try clear c3b1); (try clear c4); (try clear c4b0); (try clear c4b1); (try clear c6); (try clear c6b0); (try clear hx316_0); (try clear hx317_0); (try clear hx318_0); (try clear p316); (try clear p317); (try clear p318); (try clear q316); (try clear q317); (try clear q318); obtain ⟨x8_2, rfl, HA, HK2, HB⟩ := hrel; cases gk with
          | zero => exact absurd HA.out (by simp [spec_l5Search.l1])
          | succ k2 =>
            have H := HA.out; clear HA; simp only [spec_l5Search.l1] at H; obtain ⟨t323, A8, H⟩ := bnd H
            by_cases c9 : (wrap64 (x8_2 * x8_2)) ≤ t323
            · rw [if_pos c9] at H
              have c9b0 : decide ((wrap64 (x8_2 * x8_2)) ≤ t323) = true := decide_eq_true c9; clear c9; have HC10 := Aside0.mk H; clear H
              go_upto_region 11 with (first | ((with_reducible refine gate_callee (f := 62) rfl ?_); refine goesK (some 36) Try.func62 #[.int .i64 (wrap64 ((rd l0 0) * (rd l0 2)))] ?_; (with_reducible refine (spec_l1Size.calls (wrap64 ((rd l0 0) * (rd l0 2))) t323 _ A8.out).mono ?_); rintro e w11 ⟨rfl, hb⟩; refine ⟨_, rfl, ?_⟩; replace HB := BS hb; (try clear hb)))
              (try simp only [Act.put, List.setIfInBounds_toArray, List.set_cons_zero, List.set_cons_succ])
              go_cut [69] (fun v69 wc => ∃ (kq : Nat) (x69_9 : Bool), v69 = .bool x69_9 ∧ Aside0 (spec_l5Search.j2 kq (rd l0 0) (rd l0 1) (rd l0 2) x7_1 x8_2 (wrap64 ((wrap64 (-(wrap64 ((wrap64 ((rd l0 0) * x7_1)) * x7_1)))) - (wrap64 ((wrap64 ((rd l0 1) * x8_2)) * x8_2)))) x69_9 = some (r1, r2)) ∧ Aside0 (kq ≤ k2) ∧ Aside0 (Below w.heap.size w wc))
              case first =>
                have H := HC10.out; clear HC10; obtain ⟨c12, H⟩ := ifM H; have c12b0 : ((rd l0 2) == 0) = false := beq_eq_false_iff_ne.mpr c12; have c12b1 : ((rd l0 2) != 0) = true := bne_iff_ne.mpr c12
                (first | rw [c12b0] | (simp only [i64_w, i32_w]; rw [c12b0]) | skip)
                by_cases c13 : (Int.tmod (wrap64 ((wrap64 (-(wrap64 ((wrap64 ((rd l0 0) * x7_1)) * x7_1)))) - (wrap64 ((wrap64 ((rd l0 1) * x8_2)) * x8_2)))) (rd l0 2)) = 0
                · rw [if_pos c13] at H
                  have c13b0 : ((Int.tmod (wrap64 ((wrap64 (-(wrap64 ((wrap64 ((rd l0 0) * x7_1)) * x7_1)))) - (wrap64 ((wrap64 ((rd l0 1) * x8_2)) * x8_2)))) (rd l0 2)) == 0) = true := beq_iff_eq.mpr c13; have c13b1 : ((Int.tmod (wrap64 ((wrap64 (-(wrap64 ((wrap64 ((rd l0 0) * x7_1)) * x7_1)))) - (wrap64 ((wrap64 ((rd l0 1) * x8_2)) * x8_2)))) (rd l0 2)) != 0) = false := bne_eq_false_iff_eq.mpr c13; clear c13
                  by_cases c14 : (wrap64 (Int.tdiv (wrap64 ((wrap64 (-(wrap64 ((wrap64 ((rd l0 0) * x7_1)) * x7_1)))) - (wrap64 ((wrap64 ((rd l0 1) * x8_2)) * x8_2)))) (rd l0 2))) < 0
                  · rw [if_pos c14] at H
                    have c14b0 : decide ((wrap64 (Int.tdiv (wrap64 ((wrap64 (-(wrap64 ((wrap64 ((rd l0 0) * x7_1)) * x7_1)))) - (wrap64 ((wrap64 ((rd l0 1) * x8_2)) * x8_2)))) (rd l0 2))) < 0) = true := decide_eq_true c14; clear c14; have H' := Aside0.mk H; clear H
                    go_wp2
                    go_meet
                    case rel => exact ⟨_, (true), sR, H', ⟨by have := HK1.out; have := HK2.out; first | omega | exact Nat.le_refl _⟩, ⟨BU⟩⟩
                  rw [if_neg c14] at H; have c14b0 : decide ((wrap64 (Int.tdiv (wrap64 ((wrap64 (-(wrap64 ((wrap64 ((rd l0 0) * x7_1)) * x7_1)))) - (wrap64 ((wrap64 ((rd l0 1) * x8_2)) * x8_2)))) (rd l0 2))) < 0) = false := decide_eq_false c14; clear c14
                  by_cases c15 : x7_1 = 0
                  · rw [if_pos c15] at H
                    have c15b0 : (x7_1 == 0) = true := beq_iff_eq.mpr c15; have c15b1 : (x7_1 != 0) = false := bne_eq_false_iff_eq.mpr c15; clear c15; have H' := Aside0.mk H; clear H
                    go_wp2
                    go_meet
                    case rel => exact ⟨_, ((x8_2 == 0)), sR, H', ⟨by have := HK1.out; have := HK2.out; first | omega | exact Nat.le_refl _⟩, ⟨BU⟩⟩
                  rw [if_neg c15] at H; have c15b0 : (x7_1 == 0) = false := beq_eq_false_iff_ne.mpr c15; have c15b1 : (x7_1 != 0) = true := bne_iff_ne.mpr c15; have H' := Aside0.mk H; clear H
                  go_wp2
                  go_meet
                  case rel => exact ⟨_, (false), sR, H', ⟨by have := HK1.out; have := HK2.out; first | omega | exact Nat.le_refl _⟩, ⟨BU⟩⟩
                rw [if_neg c13] at H; have c13b0 : ((Int.tmod (wrap64 ((wrap64 (-(wrap64 ((wrap64 ((rd l0 0) * x7_1)) * x7_1)))) - (wrap64 ((wrap64 ((rd l0 1) * x8_2)) * x8_2)))) (rd l0 2)) == 0) = false := beq_eq_false_iff_ne.mpr c13; have c13b1 : ((Int.tmod (wrap64 ((wrap64 (-(wrap64 ((wrap64 ((rd l0 0) * x7_1)) * x7_1)))) - (wrap64 ((wrap64 ((rd l0 1) * x8_2)) * x8_2)))) (rd l0 2)) != 0) = true := bne_iff_ne.mpr c13; have H' := Aside0.mk H; clear H
                go_wp2
                go_meet
                case rel => exact ⟨_, (true), sR, H', ⟨by have := HK1.out; have := HK2.out; first | omega | exact Nat.le_refl _⟩, ⟨BU⟩⟩
              case rest =>
                clear HC10; (try clear c2); (try clear c2b0); (try clear c2b1); (try clear c3); (try clear c3b0); (try clear c3b1); (try clear c4); (try clear c4b0); (try clear c4b1); (try clear c6); (try clear c6b0); (try clear c9); (try clear c9b0); (try clear hx316_0); (try clear hx317_0); (try clear hx318_0); (try clear p316); (try clear p317); (try clear p318); (try clear q316); (try clear q317); (try clear q318); obtain ⟨kq, x69_9, rfl, HA, HJ9, HB⟩ := hcut; cases kq with
                | zero => exact absurd HA.out (by simp [spec_l5Search.j2])
                | succ kj9 =>
                  have H := HA.out; clear HA; simp only [spec_l5Search.j2] at H
                  by_cases c16 : x69_9 = true
                  · subst c16
                    replace H := ifT H; have H' := Aside0.mk H; clear H
                    go_wp2
                    go_roundg kj9
                    case measure => have := HK1.out; have := HK2.out; have := HJ9.out; omega
                    case rel => exact ⟨(wrap64 (x8_2 + 1)), sR, H', ⟨by have := HK1.out; have := HK2.out; have := HJ9.out; omega⟩, ⟨BU⟩⟩
                  replace c16 := Bool.eq_false_iff.mpr c16; subst c16; replace H := ifF H; obtain ⟨c17, H⟩ := ifM H; have c17b0 : ((rd l0 2) == 0) = false := beq_eq_false_iff_ne.mpr c17; have c17b1 : ((rd l0 2) != 0) = true := bne_iff_ne.mpr c17; obtain ⟨t324, A18, H⟩ := bnd H
                  by_cases c19 : t324 ≥ 0
                  · rw [if_pos c19] at H
                    have c19b0 : decide (0 ≤ t324) = true := decide_eq_true c19; clear c19; obtain ⟨y325, hy325⟩ : ∃ y_ : List Int, y_ = (([x7_1, x8_2, t324] : List Int)) := ⟨_, rfl⟩; replace H : (some (y325, true)) = some (r1, r2) := rH hy325 H; have Ny325 := Aside0.mk hy325; clear hy325; simp only [Option.some.injEq, Prod.mk.injEq] at H; obtain ⟨rfl, rfl⟩ := H
                    go_wp2_with (first | ((with_reducible refine gate_callee (f := 73) rfl ?_); refine goesK (some 73) Try.func73 #[.int .i64 (wrap64 (Int.tdiv (wrap64 ((wrap64 (-(wrap64 ((wrap64 ((rd l0 0) * x7_1)) * x7_1)))) - (wrap64 ((wrap64 ((rd l0 1) * x8_2)) * x8_2)))) (rd l0 2)))] ?_; (with_reducible refine (spec_l5Root.calls kj9 (wrap64 (Int.tdiv (wrap64 ((wrap64 (-(wrap64 ((wrap64 ((rd l0 0) * x7_1)) * x7_1)))) - (wrap64 ((wrap64 ((rd l0 1) * x8_2)) * x8_2)))) (rd l0 2))) t324 _ A18.out).mono ?_); rintro e w' ⟨rfl, ⟨nd, rfl⟩⟩; refine ⟨_, rfl, ?_⟩) | ((with_reducible refine gate_dst (N := 79) rfl ?_); refine Kd.R_lit (Kd.int .i64) _ 3 ?hg (N := 79) ?hd (xs := ([x7_1, x8_2, t324] : List Int)) (inner := [.int .i64 x7_1, .int .i64 x8_2, .int .i64 t324]) (ok := fun _ => True) (okp := fun _ => True) ?hr ?hp (fun _ hk => hk) trivial (Below.refl _ _) (Nat.le_refl _) (by simp) ?_; (case hd => rfl); (case hg => rfl); (case hr => first | (go_simp; done) | (go_simp; rfl)); (case hp => exact (Reps.one (show Kd.M (Kd.int .i64) _ _ _ x7_1 [.int .i64 x7_1] from rfl) (Reps.one (show Kd.M (Kd.int .i64) _ _ _ x8_2 [.int .i64 x8_2] from rfl) (Reps.one (show Kd.M (Kd.int .i64) _ _ _ t324 [.int .i64 t324] from rfl) (Reps.none _ _))))); intro v326 w20 ho21 hb hg_ hnew_; clear hg_ hnew_; (first | rw [← Ny325.out] at ho21 | (simp only [Int.reduceToNat] at ho21; rw [← Ny325.out] at ho21)); have HO327 := Aside0.mk (Kd.R_lower ho21 (below_size BU)); replace HB := BS hb; clear hb ho21))
                    go_ret2
                    exact ⟨_, eR, U HO327.out, BU⟩
                  rw [if_neg c19] at H; have c19b0 : decide (0 ≤ t324) = false := decide_eq_false c19; clear c19; have H' := Aside0.mk H; clear H
                  go_wp2_with (first | ((with_reducible refine gate_callee (f := 73) rfl ?_); refine goesK (some 73) Try.func73 #[.int .i64 (wrap64 (Int.tdiv (wrap64 ((wrap64 (-(wrap64 ((wrap64 ((rd l0 0) * x7_1)) * x7_1)))) - (wrap64 ((wrap64 ((rd l0 1) * x8_2)) * x8_2)))) (rd l0 2)))] ?_; (with_reducible refine (spec_l5Root.calls kj9 (wrap64 (Int.tdiv (wrap64 ((wrap64 (-(wrap64 ((wrap64 ((rd l0 0) * x7_1)) * x7_1)))) - (wrap64 ((wrap64 ((rd l0 1) * x8_2)) * x8_2)))) (rd l0 2))) t324 _ A18.out).mono ?_); rintro e w' ⟨rfl, ⟨nd, rfl⟩⟩; refine ⟨_, rfl, ?_⟩))
                  go_roundg kj9
                  case measure => have := HK1.out; have := HK2.out; have := HJ9.out; omega
                  case rel => exact ⟨(wrap64 (x8_2 + 1)), sR, H', ⟨by have := HK1.out; have := HK2.out; have := HJ9.out; omega⟩, ⟨BU⟩⟩
            rw [if_neg c9] at H; have c9b0 : decide ((wrap64 (x8_2 * x8_2)) ≤ t323) = false := decide_eq_false c9; clear c9; have H' := Aside0.mk H; clear H
            go_wp2_with (first | ((with_reducible refine gate_callee (f := 62) rfl ?_); refine goesK (some 36) Try.func62 #[.int .i64 (wrap64 ((rd l0 0) * (rd l0 2)))] ?_; (with_reducible refine (spec_l1Size.calls (wrap64 ((rd l0 0) * (rd l0 2))) t323 _ A8.out).mono ?_); rintro e w22 ⟨rfl, hb⟩; refine ⟨_, rfl, ?_⟩; replace HB := BS hb; (try clear hb)))
            go_roundg k2
            case measure => have := HK1.out; have := HK2.out; omega
            case rel => exact ⟨(wrap64 (x7_1 + 1)), sR, H', ⟨by have := HK1.out; have := HK2.out; omega⟩, ⟨BU⟩⟩
      rw [if_neg c6] at H; have c6b0 : decide ((wrap64 (x7_1 * x7_1)) ≤ t319) = false := decide_eq_false c6; clear c6; obtain ⟨y320, hy320⟩ : ∃ y_ : List Int, y_ = (([] : List Int)) := ⟨_, rfl⟩; replace H : (some (y320, false)) = some (r1, r2) := rH hy320 H; have Ny320 := Aside0.mk hy320; clear hy320; simp only [Option.some.injEq, Prod.mk.injEq] at H; obtain ⟨rfl, rfl⟩ := H
      go_wp2_with (first | ((with_reducible refine gate_callee (f := 62) rfl ?_); refine goesK (some 26) Try.func62 #[.int .i64 (wrap64 ((rd l0 1) * (rd l0 2)))] ?_; (with_reducible refine (spec_l1Size.calls (wrap64 ((rd l0 1) * (rd l0 2))) t319 _ A5.out).mono ?_); rintro e w23 ⟨rfl, hb⟩; refine ⟨_, rfl, ?_⟩; replace HB := BS hb; (try clear hb)) | ((with_reducible refine gate_dst (N := 80) rfl ?_); refine Kd.R_lit (Kd.int .i64) _ 3 ?hg (N := 80) ?hd (xs := ([] : List Int)) (inner := []) (ok := fun _ => True) (okp := fun _ => True) ?hr ?hp (fun _ hk => hk) trivial (Below.refl _ _) (Nat.le_refl _) (by simp) ?_; (case hd => rfl); (case hg => rfl); (case hr => first | (go_simp; done) | (go_simp; rfl)); (case hp => exact (Reps.none _ _)); intro v321 w24 ho25 hb hg_ hnew_; clear hg_ hnew_; (first | rw [← Ny320.out] at ho25 | (simp only [Int.reduceToNat] at ho25; rw [← Ny320.out] at ho25)); have HO322 := Aside0.mk (Kd.R_lower ho25 (below_size BU)); replace HB := BS hb; clear hb ho25))
      go_ret2
      exact ⟨_, eR, U HO322.out, BU⟩

end Go.Proofs.Ytpaohkhmhdhibaa.PFnConicMany
