-- Written by a program of this session (wip/print2.py): the functions that the law reaches, plain, and the walks.
import Derived.Test.YtpaohkhmhdhibaaPFnConicManyx0
import Derived.Test.YtpaohkhmhdhibaaPFnConicManyx13
import Derived.Test.YtpaohkhmhdhibaaPFnConicManyx14
namespace Go.Proofs.Ytpaohkhmhdhibaa.PFnConicMany
open Go.RowKit Go.Proofs.YtpaohkhmhdhibaaW.PrintWords Go.Proofs.YtpaohkhmhdhibaaW.PrintLast Go.Proofs.YtpaohkhmhdhibaaW.PrintMore
attribute [local go_sem] max2_int min2_int max_two min_two max_three min_three max_four min_four   -- for this text's walks alone
set_option linter.unusedVariables false
set_option linter.unusedSimpArgs false

/-! ### spec_l6kAway: function 49 -/
def spec_l6kAway.f (a0 : Int) (a1 : Int) (a2 : Int) : Option (List Int) := if a0 = 0 then (some (([0, a1, a2] : List Int))) else (if a0 = 1 then (some (([a1, 0, a2] : List Int))) else (some (([a1, a2, 0] : List Int))))
set_option maxHeartbeats 8000000 in
set_option maxRecDepth 100000 in
theorem spec_l6kAway.calls (a0 : Int) (a1 : Int) (a2 : Int) (r : List Int) (w : World) (h : spec_l6kAway.f a0 a1 a2 = some r) :
    Calls Try.prog 49 #[.int .i64 a0, .int .i64 a1, .int .i64 a2] w fun e w' => ∃ v0_ : Value, e = .returned (v0_) ∧ Kd.R (Kd.int .i64) 3 w' w.heap.size (fun _ => True) v0_ r ∧ Below w.heap.size w w' := by
  have HB := Aside0.mk (Below.refl w.heap.size w); unfold spec_l6kAway.f at h; have H := h; clear h
  by_cases c4 : a0 = 0
  · rw [if_pos c4] at H
    have c4b0 : (a0 == 0) = true := beq_iff_eq.mpr c4; have c4b1 : (a0 != 0) = false := bne_eq_false_iff_eq.mpr c4; clear c4; obtain ⟨y509, hy509⟩ : ∃ y_ : List Int, y_ = (([0, a1, a2] : List Int)) := ⟨_, rfl⟩; replace H : (some y509) = some r := rH hy509 H; have Ny509 := Aside0.mk hy509; clear hy509; obtain rfl := Option.some.inj H; go_enter Try.func49, Try.ntmps49
    go_wp2_with (first | ((with_reducible refine gate_dst (N := 12) rfl ?_); refine Kd.R_lit (Kd.int .i64) _ 3 ?hg (N := 12) ?hd (xs := ([0, a1, a2] : List Int)) (inner := [.int .i64 0, .int .i64 a1, .int .i64 a2]) (ok := fun _ => True) (okp := fun _ => True) ?hr ?hp (fun _ hk => hk) trivial (Below.refl _ _) (Nat.le_refl _) (by simp) ?_; (case hd => rfl); (case hg => rfl); (case hr => first | (go_simp; done) | (go_simp; rfl)); (case hp => exact (Reps.one (show Kd.M (Kd.int .i64) _ _ _ 0 [.int .i64 0] from rfl) (Reps.one (show Kd.M (Kd.int .i64) _ _ _ a1 [.int .i64 a1] from rfl) (Reps.one (show Kd.M (Kd.int .i64) _ _ _ a2 [.int .i64 a2] from rfl) (Reps.none _ _))))); intro v510 w5 ho6 hb hg_ hnew_; clear hg_ hnew_; (first | rw [← Ny509.out] at ho6 | (simp only [Int.reduceToNat] at ho6; rw [← Ny509.out] at ho6)); have HO511 := Aside0.mk (Kd.R_lower ho6 (below_size BU)); replace HB := BS hb; clear hb ho6))
    go_ret
    exact ⟨_, eR, U HO511.out, BU⟩
  rw [if_neg c4] at H; have c4b0 : (a0 == 0) = false := beq_eq_false_iff_ne.mpr c4; have c4b1 : (a0 != 0) = true := bne_iff_ne.mpr c4
  by_cases c7 : a0 = 1
  · rw [if_pos c7] at H
    have c7b0 : (a0 == 1) = true := beq_iff_eq.mpr c7; have c7b1 : (a0 != 1) = false := bne_eq_false_iff_eq.mpr c7; clear c7; obtain ⟨y512, hy512⟩ : ∃ y_ : List Int, y_ = (([a1, 0, a2] : List Int)) := ⟨_, rfl⟩; replace H : (some y512) = some r := rH hy512 H; have Ny512 := Aside0.mk hy512; clear hy512; obtain rfl := Option.some.inj H; go_enter Try.func49, Try.ntmps49
    go_wp2_with (first | ((with_reducible refine gate_dst (N := 17) rfl ?_); refine Kd.R_lit (Kd.int .i64) _ 3 ?hg (N := 17) ?hd (xs := ([a1, 0, a2] : List Int)) (inner := [.int .i64 a1, .int .i64 0, .int .i64 a2]) (ok := fun _ => True) (okp := fun _ => True) ?hr ?hp (fun _ hk => hk) trivial (Below.refl _ _) (Nat.le_refl _) (by simp) ?_; (case hd => rfl); (case hg => rfl); (case hr => first | (go_simp; done) | (go_simp; rfl)); (case hp => exact (Reps.one (show Kd.M (Kd.int .i64) _ _ _ a1 [.int .i64 a1] from rfl) (Reps.one (show Kd.M (Kd.int .i64) _ _ _ 0 [.int .i64 0] from rfl) (Reps.one (show Kd.M (Kd.int .i64) _ _ _ a2 [.int .i64 a2] from rfl) (Reps.none _ _))))); intro v513 w8 ho9 hb hg_ hnew_; clear hg_ hnew_; (first | rw [← Ny512.out] at ho9 | (simp only [Int.reduceToNat] at ho9; rw [← Ny512.out] at ho9)); have HO514 := Aside0.mk (Kd.R_lower ho9 (below_size BU)); replace HB := BS hb; clear hb ho9))
    go_ret
    exact ⟨_, eR, U HO514.out, BU⟩
  rw [if_neg c7] at H; have c7b0 : (a0 == 1) = false := beq_eq_false_iff_ne.mpr c7; have c7b1 : (a0 != 1) = true := bne_iff_ne.mpr c7; obtain ⟨y515, hy515⟩ : ∃ y_ : List Int, y_ = (([a1, a2, 0] : List Int)) := ⟨_, rfl⟩; replace H : (some y515) = some r := rH hy515 H; have Ny515 := Aside0.mk hy515; clear hy515; obtain rfl := Option.some.inj H; go_enter Try.func49, Try.ntmps49
  go_wp2_with (first | ((with_reducible refine gate_dst (N := 20) rfl ?_); refine Kd.R_lit (Kd.int .i64) _ 3 ?hg (N := 20) ?hd (xs := ([a1, a2, 0] : List Int)) (inner := [.int .i64 a1, .int .i64 a2, .int .i64 0]) (ok := fun _ => True) (okp := fun _ => True) ?hr ?hp (fun _ hk => hk) trivial (Below.refl _ _) (Nat.le_refl _) (by simp) ?_; (case hd => rfl); (case hg => rfl); (case hr => first | (go_simp; done) | (go_simp; rfl)); (case hp => exact (Reps.one (show Kd.M (Kd.int .i64) _ _ _ a1 [.int .i64 a1] from rfl) (Reps.one (show Kd.M (Kd.int .i64) _ _ _ a2 [.int .i64 a2] from rfl) (Reps.one (show Kd.M (Kd.int .i64) _ _ _ 0 [.int .i64 0] from rfl) (Reps.none _ _))))); intro v516 w10 ho11 hb hg_ hnew_; clear hg_ hnew_; (first | rw [← Ny515.out] at ho11 | (simp only [Int.reduceToNat] at ho11; rw [← Ny515.out] at ho11)); have HO517 := Aside0.mk (Kd.R_lower ho11 (below_size BU)); replace HB := BS hb; clear hb ho11))
  go_ret
  exact ⟨_, eR, U HO517.out, BU⟩

/-! ### spec_l6kAxis: function 50 -/
def spec_l6kAxis.l0 : Nat → List Int → Int → Option (Int)
  | 0, _, _ => none
  | k + 1, x0, x3 => if 0 ≤ x3 then (if x3 < (x0.length : Int) then (if (rd x0 x3) = 0 then (spec_l6kAxis.l0 k x0 (wrap64 (x3 + 1))) else (some x3)) else (none)) else (none)
def spec_l6kAxis.f (k : Nat) (l0 : List Int) : Option (Int) := spec_l6kAxis.l0 k l0 0
theorem spec_l6kAxis.mono_l : ∀ k, (∀ y0 y1, LeO (spec_l6kAxis.l0 k y0 y1) (spec_l6kAxis.l0 (k + 1) y0 y1))
  | 0 => fun _ _ r h => by simp [spec_l6kAxis.l0] at h
  | k + 1 => by
    have ih0 := spec_l6kAxis.mono_l k
    · intro y0 y1
      unfold spec_l6kAxis.l0
      repeat' first
      | (with_reducible exact ih0 _ _)
      | (with_reducible exact LeO.refl _)
      | (with_reducible exact LeO.none _)
      | (with_reducible refine LeO.ite ?_ ?_)
      | (with_reducible refine LeO.bind ?_ (fun _ => ?_))
      | exact ih0 _ _
      | exact LeO.none _
      | refine LeO.ite ?_ ?_
      | refine LeO.bind ?_ (fun _ => ?_)
theorem spec_l6kAxis.mono : ∀ a0 k, LeO (spec_l6kAxis.f k a0) (spec_l6kAxis.f (k + 1) a0) := by
  intro a0 k
  have ih0 := spec_l6kAxis.mono_l k
  unfold spec_l6kAxis.f
  repeat' first
      | (with_reducible exact ih0 _ _)
      | (with_reducible exact LeO.refl _)
      | (with_reducible exact LeO.none _)
      | (with_reducible refine LeO.ite ?_ ?_)
      | (with_reducible refine LeO.bind ?_ (fun _ => ?_))
      | exact ih0 _ _
      | exact LeO.none _
      | refine LeO.ite ?_ ?_
      | refine LeO.bind ?_ (fun _ => ?_)
set_option maxHeartbeats 8000000 in
set_option maxRecDepth 100000 in
theorem spec_l6kAxis.calls (k : Nat) (A0 : Option Addr) (c0 : Nat) (l0 : List Int) (r : Int) (w : World) (hr0 : Kd.C (Kd.int .i64) w A0 l0.length l0) (hc0 : l0.length ≤ c0) (h : spec_l6kAxis.f k l0 = some r) :
    Calls Try.prog 50 #[.slice A0 l0.length c0] w fun e w' => e = .returned (.int .i64 r) ∧ Drawn0 w w' := by
  have HR0 := Aside0.mk hr0; have HC0 := Aside0.mk hc0; clear hr0 hc0; unfold spec_l6kAxis.f at h; have H := h; clear h; have H' := Aside0.mk H; clear H; go_enter Try.func50, Try.ntmps50
  go_wp2
  go_loopg [3] k (fun kq v3 w' => ∃ (x3_1 : Int), v3 = .int .i64 x3_1 ∧ Aside0 (spec_l6kAxis.l0 kq l0 x3_1 = some r) ∧ Aside0 (kq ≤ k) ∧ Drawn0 w w')
  case atStart => exact ⟨(0), sR, H', ⟨Nat.le_refl _⟩, by repeat (first | exact Drawn0.refl _ | apply Drawn0.step)⟩
  case round =>
    clear H'; obtain ⟨x3_1, rfl, HA, HK1, ⟨m1, rfl⟩⟩ := hrel; cases gk with
    | zero => exact absurd HA.out (by simp [spec_l6kAxis.l0])
    | succ k1 =>
      have H := HA.out; clear HA; simp only [spec_l6kAxis.l0] at H; obtain ⟨c2, H⟩ := ifN H; have c2b0 : decide (0 ≤ x3_1) = true := decide_eq_true c2; clear c2; obtain ⟨c3, H⟩ := ifN H; have c3b0 : decide (x3_1 < (l0.length : Int)) = true := decide_eq_true c3; clear c3
      by_cases c4 : (rd l0 x3_1) = 0
      · rw [if_pos c4] at H
        have c4b0 : ((rd l0 x3_1) == 0) = true := beq_iff_eq.mpr c4; have c4b1 : ((rd l0 x3_1) != 0) = false := bne_eq_false_iff_eq.mpr c4; clear c4; have H' := Aside0.mk H; clear H; have p518 : 0 ≤ (x3_1 : Int) := oD; have q518 : x3_1 < (l0.length : Int) := oD; obtain ⟨ad518, e518, hx518_0⟩ := Kd.at_int HR0.out x3_1 p518 q518; cases e518; replace p518 := eq_true p518; replace q518 := eq_true q518
        go_wp2
        go_roundg k1
        case measure => have := HK1.out; omega
        case rel => exact ⟨(wrap64 (x3_1 + 1)), sR, H', ⟨by have := HK1.out; omega⟩, by repeat (first | exact Drawn0.refl _ | apply Drawn0.step)⟩
      rw [if_neg c4] at H; have c4b0 : ((rd l0 x3_1) == 0) = false := beq_eq_false_iff_ne.mpr c4; have c4b1 : ((rd l0 x3_1) != 0) = true := bne_iff_ne.mpr c4; obtain rfl := Option.some.inj H; have p518 : 0 ≤ (x3_1 : Int) := oD; have q518 : x3_1 < (l0.length : Int) := oD; obtain ⟨ad518, e518, hx518_0⟩ := Kd.at_int HR0.out x3_1 p518 q518; cases e518; replace p518 := eq_true p518; replace q518 := eq_true q518
      go_wp2
      go_ret
      exact ⟨by first | rfl | (simp; done) | (simp [*]; done), by repeat (first | exact Drawn0.refl _ | apply Drawn0.step)⟩

/-! ### spec_ConicAt: function 21 -/
def spec_ConicAt.j0 : Nat → List Int → List Int → Int → Int → Bool → Option (List Int × Bool)
  | 0, _, _, _, _, _ => none
  | k + 1, x0, x1, x2, x3, x21 => if x21 = true then (some ((([] : List Int)), false)) else ((spec_l6kAxis.f k x1).bind fun t523 => ((spec_l6kAway.f t523 x2 x3).bind fun t524 => ((spec_ConicOther.f k x0 x1 t524).bind fun bt527 => (some (bt527.1, bt527.2)))))
def spec_ConicAt.f (k : Nat) (l0 : List Int) (l1 : List Int) (a2 : Int) (a3 : Int) : Option (List Int × Bool) := (spec_ConicPoint.f k l0 l1).bind fun t519 => (if t519 = true then (if a2 = 0 then (spec_ConicAt.j0 k l0 l1 a2 a3 (a3 == 0)) else (spec_ConicAt.j0 k l0 l1 a2 a3 false)) else (spec_ConicAt.j0 k l0 l1 a2 a3 true))
theorem spec_ConicAt.mono_l : ∀ k, (∀ y0 y1 y2 y3 y4, LeO (spec_ConicAt.j0 k y0 y1 y2 y3 y4) (spec_ConicAt.j0 (k + 1) y0 y1 y2 y3 y4))
  | 0 => fun _ _ _ _ _ r h => by simp [spec_ConicAt.j0] at h
  | k + 1 => by
    have ih0 := spec_ConicAt.mono_l k
    · intro y0 y1 y2 y3 y4
      unfold spec_ConicAt.j0
      repeat' first
      | (with_reducible exact ih0 _ _ _ _ _)
      | (with_reducible exact spec_ConicOther.mono _ _ _ _)
      | (with_reducible exact spec_ConicPoint.mono _ _ _)
      | (with_reducible exact spec_l6kAxis.mono _ _)
      | (with_reducible exact LeO.refl _)
      | (with_reducible exact LeO.none _)
      | (with_reducible refine LeO.ite ?_ ?_)
      | (with_reducible refine LeO.bind ?_ (fun _ => ?_))
      | exact ih0 _ _ _ _ _
      | exact spec_ConicOther.mono _ _ _ _
      | exact spec_ConicPoint.mono _ _ _
      | exact spec_l6kAxis.mono _ _
      | exact LeO.none _
      | refine LeO.ite ?_ ?_
      | refine LeO.bind ?_ (fun _ => ?_)
theorem spec_ConicAt.mono : ∀ a0 a1 a2 a3 k, LeO (spec_ConicAt.f k a0 a1 a2 a3) (spec_ConicAt.f (k + 1) a0 a1 a2 a3) := by
  intro a0 a1 a2 a3 k
  have ih0 := spec_ConicAt.mono_l k
  unfold spec_ConicAt.f
  repeat' first
      | (with_reducible exact ih0 _ _ _ _ _)
      | (with_reducible exact spec_ConicOther.mono _ _ _ _)
      | (with_reducible exact spec_ConicPoint.mono _ _ _)
      | (with_reducible exact spec_l6kAxis.mono _ _)
      | (with_reducible exact LeO.refl _)
      | (with_reducible exact LeO.none _)
      | (with_reducible refine LeO.ite ?_ ?_)
      | (with_reducible refine LeO.bind ?_ (fun _ => ?_))
      | exact ih0 _ _ _ _ _
      | exact spec_ConicOther.mono _ _ _ _
      | exact spec_ConicPoint.mono _ _ _
      | exact spec_l6kAxis.mono _ _
      | exact LeO.none _
      | refine LeO.ite ?_ ?_
      | refine LeO.bind ?_ (fun _ => ?_)
set_option maxHeartbeats 8000000 in
set_option maxRecDepth 100000 in
theorem spec_ConicAt.calls (k : Nat) (A0 : Option Addr) (c0 : Nat) (l0 : List Int) (A1 : Option Addr) (c1 : Nat) (l1 : List Int) (a2 : Int) (a3 : Int) (r1 : List Int) (r2 : Bool) (w : World) (hr0 : Kd.C (Kd.int .i64) w A0 l0.length l0) (hc0 : l0.length ≤ c0) (hr1 : Kd.C (Kd.int .i64) w A1 l1.length l1) (hc1 : l1.length ≤ c1) (h : spec_ConicAt.f k l0 l1 a2 a3 = some (r1, r2)) :
    Calls Try.prog 21 #[.slice A0 l0.length c0, .slice A1 l1.length c1, .int .i64 a2, .int .i64 a3] w fun e w' => ∃ v0_ : Value, e = .returned (.tuple #[v0_, .bool r2]) ∧ Kd.R (Kd.int .i64) 3 w' w.heap.size (fun _ => True) v0_ r1 ∧ Below w.heap.size w w' := by
  have HR0 := Aside0.mk hr0; have HC0 := Aside0.mk hc0; clear hr0 hc0; have HR1 := Aside0.mk hr1; have HC1 := Aside0.mk hc1; clear hr1 hc1; have HB := Aside0.mk (Below.refl w.heap.size w); unfold spec_ConicAt.f at h; have H := h; clear h; have HC5 := Aside0.mk H; clear H; go_enter Try.func21, Try.ntmps21
  go_upto_region 1 with (fail)
  go_cut [21] (fun v21 wc => ∃ (kq : Nat) (x21_4 : Bool), v21 = .bool x21_4 ∧ Aside0 (spec_ConicAt.j0 kq l0 l1 a2 a3 x21_4 = some (r1, r2)) ∧ Aside0 (kq ≤ k) ∧ Aside0 (Below w.heap.size w wc))
  case first =>
    have H := HC5.out; clear HC5; obtain ⟨t519, A6, H⟩ := bnd H
    by_cases c7 : t519 = true
    · subst c7
      replace H := ifT H
      by_cases c8 : a2 = 0
      · rw [if_pos c8] at H
        have c8b0 : (a2 == 0) = true := beq_iff_eq.mpr c8; have c8b1 : (a2 != 0) = false := bne_eq_false_iff_eq.mpr c8; clear c8
        (first | rw [c8b0] | (simp only [i64_w, i32_w]; rw [c8b0]) | skip)
        have H' := Aside0.mk H; clear H
        go_wp2_with (first | ((with_reducible refine gate_callee (f := 10) rfl ?_); refine goesK (some 12) Try.func10 #[.slice A0 l0.length c0, .slice A1 l1.length c1] ?_; (with_reducible refine (spec_ConicPoint.calls k _ _ l0 _ _ l1 true _ ?side1 ?side2 ?side3 ?side4 A6.out).mono ?_); (case side1 => exact U (Kd.C_below HR0.out HB.out)); (case side2 => exact HC0.out); (case side3 => exact U (Kd.C_below HR1.out HB.out)); (case side4 => exact HC1.out); rintro e w9 ⟨rfl, hb⟩; refine ⟨_, rfl, ?_⟩; replace HB := BS hb; (try clear hb)))
        go_meet
        case rel => exact ⟨_, ((a3 == 0)), sR, H', ⟨oR⟩, ⟨BU⟩⟩
      rw [if_neg c8] at H; have c8b0 : (a2 == 0) = false := beq_eq_false_iff_ne.mpr c8; have c8b1 : (a2 != 0) = true := bne_iff_ne.mpr c8
      (first | rw [c8b0] | (simp only [i64_w, i32_w]; rw [c8b0]) | skip)
      have H' := Aside0.mk H; clear H
      go_wp2_with (first | ((with_reducible refine gate_callee (f := 10) rfl ?_); refine goesK (some 12) Try.func10 #[.slice A0 l0.length c0, .slice A1 l1.length c1] ?_; (with_reducible refine (spec_ConicPoint.calls k _ _ l0 _ _ l1 true _ ?side1 ?side2 ?side3 ?side4 A6.out).mono ?_); (case side1 => exact U (Kd.C_below HR0.out HB.out)); (case side2 => exact HC0.out); (case side3 => exact U (Kd.C_below HR1.out HB.out)); (case side4 => exact HC1.out); rintro e w10 ⟨rfl, hb⟩; refine ⟨_, rfl, ?_⟩; replace HB := BS hb; (try clear hb)))
      go_meet
      case rel => exact ⟨_, (false), sR, H', ⟨oR⟩, ⟨BU⟩⟩
    replace c7 := Bool.eq_false_iff.mpr c7; subst c7; replace H := ifF H; have H' := Aside0.mk H; clear H
    go_wp2_with (first | ((with_reducible refine gate_callee (f := 10) rfl ?_); refine goesK (some 12) Try.func10 #[.slice A0 l0.length c0, .slice A1 l1.length c1] ?_; (with_reducible refine (spec_ConicPoint.calls k _ _ l0 _ _ l1 false _ ?side1 ?side2 ?side3 ?side4 A6.out).mono ?_); (case side1 => exact U (Kd.C_below HR0.out HB.out)); (case side2 => exact HC0.out); (case side3 => exact U (Kd.C_below HR1.out HB.out)); (case side4 => exact HC1.out); rintro e w11 ⟨rfl, hb⟩; refine ⟨_, rfl, ?_⟩; replace HB := BS hb; (try clear hb)))
    go_meet
    case rel => exact ⟨_, (true), sR, H', ⟨oR⟩, ⟨BU⟩⟩
  case rest =>
    clear HC5; obtain ⟨kq, x21_4, rfl, HA, HJ4, HB⟩ := hcut; cases kq with
    | zero => exact absurd HA.out (by simp [spec_ConicAt.j0])
    | succ kj4 =>
      have H := HA.out; clear HA; simp only [spec_ConicAt.j0] at H
      by_cases c12 : x21_4 = true
      · subst c12
        replace H := ifT H; obtain ⟨y520, hy520⟩ : ∃ y_ : List Int, y_ = (([] : List Int)) := ⟨_, rfl⟩; replace H : (some (y520, false)) = some (r1, r2) := rH hy520 H; have Ny520 := Aside0.mk hy520; clear hy520; simp only [Option.some.injEq, Prod.mk.injEq] at H; obtain ⟨rfl, rfl⟩ := H
        go_wp2_with (first | ((with_reducible refine gate_dst (N := 22) rfl ?_); refine Kd.R_lit (Kd.int .i64) _ 3 ?hg (N := 22) ?hd (xs := ([] : List Int)) (inner := []) (ok := fun _ => True) (okp := fun _ => True) ?hr ?hp (fun _ hk => hk) trivial (Below.refl _ _) (Nat.le_refl _) (by simp) ?_; (case hd => rfl); (case hg => rfl); (case hr => first | (go_simp; done) | (go_simp; rfl)); (case hp => exact (Reps.none _ _)); intro v521 w13 ho14 hb hg_ hnew_; clear hg_ hnew_; (first | rw [← Ny520.out] at ho14 | (simp only [Int.reduceToNat] at ho14; rw [← Ny520.out] at ho14)); have HO522 := Aside0.mk (Kd.R_lower ho14 (below_size BU)); replace HB := BS hb; clear hb ho14))
        go_ret2
        exact ⟨_, eR, U HO522.out, BU⟩
      replace c12 := Bool.eq_false_iff.mpr c12; subst c12; replace H := ifF H; obtain ⟨t523, A15, H⟩ := bnd H; obtain ⟨t524, A16, H⟩ := bnd H; obtain ⟨⟨t527, t528⟩, A17, H⟩ := bnd H; replace H : (some (t527, t528)) = some (r1, r2) := H; simp only [Option.some.injEq, Prod.mk.injEq] at H; obtain ⟨rfl, rfl⟩ := H
      go_wp2_with (first | ((with_reducible refine gate_callee (f := 50) rfl ?_); refine goesK (some 26) Try.func50 #[.slice A1 l1.length c1] ?_; (with_reducible refine (spec_l6kAxis.calls kj4 _ _ l1 t523 _ ?side1 ?side2 A15.out).mono ?_); (case side1 => exact U (Kd.C_below HR1.out HB.out)); (case side2 => exact HC1.out); rintro e w' ⟨rfl, ⟨nd, rfl⟩⟩; refine ⟨_, rfl, ?_⟩) | ((with_reducible refine gate_callee (f := 49) rfl ?_); refine goesK (some 29) Try.func49 #[.int .i64 t523, .int .i64 a2, .int .i64 a3] ?_; (with_reducible refine (spec_l6kAway.calls t523 a2 a3 t524 _ A16.out).mono ?_); rintro e w18 ⟨v525, rfl, ho0, hb⟩; refine ⟨_, rfl, ?_⟩; have HO526 := Aside0.mk (Kd.R_lower ho0 (below_size BU)); replace HB := BS hb; (try clear hb); (try clear ho0); obtain ⟨Ao19, co19, eo19⟩ := Kd.R_slice HO526.out; subst eo19) | ((with_reducible refine gate_callee (f := 18) rfl ?_); refine goesK (some 30) Try.func18 #[.slice A0 l0.length c0, .slice A1 l1.length c1, .slice Ao19 t524.length co19] ?_; (with_reducible refine (spec_ConicOther.calls kj4 _ _ l0 _ _ l1 _ _ t524 t527 t528 _ ?side1 ?side2 ?side3 ?side4 ?side5 ?side6 A17.out).mono ?_); (case side1 => exact U (Kd.C_below HR0.out HB.out)); (case side2 => exact HC0.out); (case side3 => exact U (Kd.C_below HR1.out HB.out)); (case side4 => exact HC1.out); (case side5 => exact U ((Kd.R_reads' HO526.out).2.2)); (case side6 => exact (Kd.R_reads' HO526.out).2.1); rintro e w20 ⟨v529, rfl, ho0, hb⟩; refine ⟨_, rfl, ?_⟩; have HO530 := Aside0.mk (Kd.R_lower (Kd.R_new' ho0 (Kd.R_lt (U HO526.out))) (below_size BU)); replace HO526 := Aside0.mk (Kd.R_elder' (U HO526.out) (Kd.R_base ho0) hb); replace HB := BS hb; (try clear hb); (try clear ho0)))
      go_ret2
      exact ⟨_, eR, Kd.RM HO530.out (fun _ hk => trivial), BU⟩

/-! ### spec_l6kIn: function 57 -/
mutual
def spec_l6kIn.l0 : Nat → List (List Int) → List Int → Int → Option (Bool)
  | 0, _, _, _ => none
  | k + 1, x0, x1, x5 => if x5 < (x0.length : Int) then (spec_l6kIn.l1 k x0 x1 x5 true 0) else (some false)
def spec_l6kIn.l1 : Nat → List (List Int) → List Int → Int → Bool → Int → Option (Bool)
  | 0, _, _, _, _, _ => none
  | k + 1, x0, x1, x5, x6, x7 => if x7 < (x1.length : Int) then (if x6 = true then (if 0 ≤ x5 then (if x5 < (x0.length : Int) then (if 0 ≤ x7 then (if x7 < ((rd_L2 x0 x5).length : Int) then (spec_l6kIn.l1 k x0 x1 x5 ((rd (rd_L2 x0 x5) x7) == (rd x1 x7)) (wrap64 (x7 + 1))) else (none)) else (none)) else (none)) else (none)) else (spec_l6kIn.l1 k x0 x1 x5 false (wrap64 (x7 + 1)))) else (if x6 = true then (some true) else (spec_l6kIn.l0 k x0 x1 (wrap64 (x5 + 1))))
end
def spec_l6kIn.f (k : Nat) (l0 : List (List Int)) (l1 : List Int) : Option (Bool) := spec_l6kIn.l0 k l0 l1 0
theorem spec_l6kIn.mono_l : ∀ k, (∀ y0 y1 y2, LeO (spec_l6kIn.l0 k y0 y1 y2) (spec_l6kIn.l0 (k + 1) y0 y1 y2)) ∧ (∀ y0 y1 y2 y3 y4, LeO (spec_l6kIn.l1 k y0 y1 y2 y3 y4) (spec_l6kIn.l1 (k + 1) y0 y1 y2 y3 y4))
  | 0 => ⟨fun _ _ _ r h => by simp [spec_l6kIn.l0] at h, fun _ _ _ _ _ r h => by simp [spec_l6kIn.l1] at h⟩
  | k + 1 => by
    obtain ⟨ih0, ih1⟩ := spec_l6kIn.mono_l k
    refine ⟨?_, ?_⟩ <;> intros <;> (first | unfold spec_l6kIn.l0 | unfold spec_l6kIn.l1) <;> (repeat' first
      | (with_reducible exact ih0 _ _ _)
      | (with_reducible exact ih1 _ _ _ _ _)
      | (with_reducible exact LeO.refl _)
      | (with_reducible exact LeO.none _)
      | (with_reducible refine LeO.ite ?_ ?_)
      | (with_reducible refine LeO.bind ?_ (fun _ => ?_))
      | exact ih0 _ _ _
      | exact ih1 _ _ _ _ _
      | exact LeO.none _
      | refine LeO.ite ?_ ?_
      | refine LeO.bind ?_ (fun _ => ?_))
theorem spec_l6kIn.mono : ∀ a0 a1 k, LeO (spec_l6kIn.f k a0 a1) (spec_l6kIn.f (k + 1) a0 a1) := by
  intro a0 a1 k
  obtain ⟨ih0, ih1⟩ := spec_l6kIn.mono_l k
  unfold spec_l6kIn.f
  repeat' first
      | (with_reducible exact ih0 _ _ _)
      | (with_reducible exact ih1 _ _ _ _ _)
      | (with_reducible exact LeO.refl _)
      | (with_reducible exact LeO.none _)
      | (with_reducible refine LeO.ite ?_ ?_)
      | (with_reducible refine LeO.bind ?_ (fun _ => ?_))
      | exact ih0 _ _ _
      | exact ih1 _ _ _ _ _
      | exact LeO.none _
      | refine LeO.ite ?_ ?_
      | refine LeO.bind ?_ (fun _ => ?_)
set_option maxHeartbeats 8000000 in
set_option maxRecDepth 100000 in
theorem spec_l6kIn.calls (k : Nat) (A0 : Option Addr) (c0 : Nat) (l0 : List (List Int)) (A1 : Option Addr) (c1 : Nat) (l1 : List Int) (r : Bool) (w : World) (hr0 : Kd.C (Kd.slice 3 (Kd.int .i64)) w A0 l0.length l0) (hc0 : l0.length ≤ c0) (hr1 : Kd.C (Kd.int .i64) w A1 l1.length l1) (hc1 : l1.length ≤ c1) (h : spec_l6kIn.f k l0 l1 = some r) :
    Calls Try.prog 57 #[.slice A0 l0.length c0, .slice A1 l1.length c1] w fun e w' => e = .returned (.bool r) ∧ Drawn0 w w' := by
  have HR0 := Aside0.mk hr0; have HC0 := Aside0.mk hc0; clear hr0 hc0; have HR1 := Aside0.mk hr1; have HC1 := Aside0.mk hc1; clear hr1 hc1; unfold spec_l6kIn.f at h; have H := h; clear h; have H' := Aside0.mk H; clear H; go_enter Try.func57, Try.ntmps57
  go_wp2
  repeat (go_quiet (fail); try go_wp2)
  go_loopg [5] k (fun kq v5 w' => ∃ (x5_1 : Int), v5 = .int .i64 x5_1 ∧ Aside0 (spec_l6kIn.l0 kq l0 l1 x5_1 = some r) ∧ Aside0 (kq ≤ k) ∧ Drawn0 w w')
  case atStart => exact ⟨(0), sR, H', ⟨Nat.le_refl _⟩, by repeat (first | exact Drawn0.refl _ | apply Drawn0.step)⟩
  case round =>
    clear H'; obtain ⟨x5_1, rfl, HA, HK1, ⟨m1, rfl⟩⟩ := hrel; cases gk with
    | zero => exact absurd HA.out (by simp [spec_l6kIn.l0])
    | succ k1 =>
      have H := HA.out; clear HA; simp only [spec_l6kIn.l0] at H
      by_cases c3 : x5_1 < (l0.length : Int)
      · rw [if_pos c3] at H
        have c3b0 : decide (x5_1 < (l0.length : Int)) = true := decide_eq_true c3; clear c3; have H' := Aside0.mk H; clear H
        go_wp2
        repeat (go_quiet (fail); try go_wp2)
        go_loopg [6, 7] k1 (fun kq v6 v7 w' => ∃ (x6_2 : Bool) (x7_2 : Int), v6 = .bool x6_2 ∧ v7 = .int .i64 x7_2 ∧ Aside0 (spec_l6kIn.l1 kq l0 l1 x5_1 x6_2 x7_2 = some r) ∧ Aside0 (kq ≤ k1) ∧ Drawn0 w w')
        case atStart => exact ⟨(true), (0), sR, sR, H', ⟨Nat.le_refl _⟩, by repeat (first | exact Drawn0.refl _ | apply Drawn0.step)⟩
        case round =>
          clear H'; (try clear c3); (try clear c3b0); obtain ⟨x6_2, x7_2, rfl, rfl, HA, HK2, ⟨m2, rfl⟩⟩ := hrel; cases gk with
          | zero => exact absurd HA.out (by simp [spec_l6kIn.l1])
          | succ k2 =>
            have H := HA.out; clear HA; simp only [spec_l6kIn.l1] at H
            by_cases c4 : x7_2 < (l1.length : Int)
            · rw [if_pos c4] at H
              have c4b0 : decide (x7_2 < (l1.length : Int)) = true := decide_eq_true c4; clear c4
              by_cases c5 : x6_2 = true
              · subst c5
                replace H := ifT H; obtain ⟨c6, H⟩ := ifN H; have c6b0 : decide (0 ≤ x5_1) = true := decide_eq_true c6; clear c6; obtain ⟨c7, H⟩ := ifN H; have c7b0 : decide (x5_1 < (l0.length : Int)) = true := decide_eq_true c7; clear c7; obtain ⟨c8, H⟩ := ifN H; have c8b0 : decide (0 ≤ x7_2) = true := decide_eq_true c8; clear c8; obtain ⟨c9, H⟩ := ifN H; have c9b0 : decide (x7_2 < ((rd_L2 l0 x5_1).length : Int)) = true := decide_eq_true c9; clear c9; have H' := Aside0.mk H; clear H; have p531 : 0 ≤ (x5_1 : Int) := oD; have q531 : x5_1 < (l0.length : Int) := oD; obtain ⟨ad531, A531_0, c531_0, e531, hx531_0, hl531_0, hi531_0⟩ := at_L2 HR0.out x5_1 p531 q531; cases e531; have HR531_0 := Aside0.mk hi531_0; have HC531_0 := Aside0.mk hl531_0; clear hi531_0 hl531_0; replace p531 := eq_true p531; replace q531 := eq_true q531; have p532 : 0 ≤ (x7_2 : Int) := oD; have q532 : x7_2 < ((rd_L2 l0 x5_1).length : Int) := oD; obtain ⟨ad532, e532, hx532_0⟩ := Kd.at_int HR531_0.out x7_2 p532 q532; cases e532; replace p532 := eq_true p532; replace q532 := eq_true q532; have p533 : 0 ≤ (x7_2 : Int) := oD; have q533 : x7_2 < (l1.length : Int) := oD; obtain ⟨ad533, e533, hx533_0⟩ := Kd.at_int HR1.out x7_2 p533 q533; cases e533; replace p533 := eq_true p533; replace q533 := eq_true q533
                go_wp2
                repeat (go_quiet (fail); try go_wp2)
                go_roundg k2
                case measure => have := HK1.out; have := HK2.out; omega
                case rel => exact ⟨(((rd (rd_L2 l0 x5_1) x7_2) == (rd l1 x7_2))), (wrap64 (x7_2 + 1)), sR, sR, H', ⟨by have := HK1.out; have := HK2.out; omega⟩, by repeat (first | exact Drawn0.refl _ | apply Drawn0.step)⟩
              replace c5 := Bool.eq_false_iff.mpr c5; subst c5; replace H := ifF H; have H' := Aside0.mk H; clear H
              go_wp2
              repeat (go_quiet (fail); try go_wp2)
              go_roundg k2
              case measure => have := HK1.out; have := HK2.out; omega
              case rel => exact ⟨(false), (wrap64 (x7_2 + 1)), sR, sR, H', ⟨by have := HK1.out; have := HK2.out; omega⟩, by repeat (first | exact Drawn0.refl _ | apply Drawn0.step)⟩
            rw [if_neg c4] at H; have c4b0 : decide (x7_2 < (l1.length : Int)) = false := decide_eq_false c4; clear c4
            by_cases c10 : x6_2 = true
            · subst c10
              replace H := ifT H; obtain rfl := Option.some.inj H
              go_wp2
              repeat (go_quiet (fail); try go_wp2)
              go_ret
              exact ⟨by first | rfl | (simp; done) | (simp [*]; done), by repeat (first | exact Drawn0.refl _ | apply Drawn0.step)⟩
            replace c10 := Bool.eq_false_iff.mpr c10; subst c10; replace H := ifF H; have H' := Aside0.mk H; clear H
            go_wp2
            repeat (go_quiet (fail); try go_wp2)
            go_roundg k2
            case measure => have := HK1.out; have := HK2.out; omega
            case rel => exact ⟨(wrap64 (x5_1 + 1)), sR, H', ⟨by have := HK1.out; have := HK2.out; omega⟩, by repeat (first | exact Drawn0.refl _ | apply Drawn0.step)⟩
      rw [if_neg c3] at H; have c3b0 : decide (x5_1 < (l0.length : Int)) = false := decide_eq_false c3; clear c3; obtain rfl := Option.some.inj H
      go_wp2
      repeat (go_quiet (fail); try go_wp2)
      go_ret
      exact ⟨by first | rfl | (simp; done) | (simp [*]; done), by repeat (first | exact Drawn0.refl _ | apply Drawn0.step)⟩

end Go.Proofs.Ytpaohkhmhdhibaa.PFnConicMany
