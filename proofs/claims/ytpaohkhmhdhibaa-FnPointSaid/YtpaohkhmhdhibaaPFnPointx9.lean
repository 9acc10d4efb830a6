-- Written by a program of this session (wip/print2.py): the functions that the law reaches, plain, and the walks.
import Derived.Test.YtpaohkhmhdhibaaPFnPointx0
import Derived.Test.YtpaohkhmhdhibaaPFnPointx8
namespace Go.Proofs.Ytpaohkhmhdhibaa.PFnPoint
open Go.RowKit Go.Proofs.YtpaohkhmhdhibaaW.PrintWords Go.Proofs.YtpaohkhmhdhibaaW.PrintLast Go.Proofs.YtpaohkhmhdhibaaW.PrintMore
attribute [local go_sem] max2_int min2_int max_two min_two max_three min_three max_four min_four   -- for this text's walks alone
set_option linter.unusedVariables false
set_option linter.unusedSimpArgs false

/-! ### impl_FormValid: function 60 -/
def impl_FormValid.l0 : Nat → List Int → List Int → Int → Int → Option (Bool)
  | 0, _, _, _, _ => none
  | k + 1, x0, x5, x6, x7 => if x7 < x6 then (if 0 ≤ x7 then (if x7 < (x5.length : Int) then (if (rd x5 x7) = 0 then (some false) else ((impl_size.f (rd x5 x7)).bind fun t374 => (if t374 > 30 then (some false) else (impl_FormValid.l0 k x0 x5 x6 (wrap64 (x7 + 1)))))) else (none)) else (none)) else (if (x0.length : Int) ≥ 1 then (some (decide ((x0.length : Int) ≤ 4))) else (some false))
def impl_FormValid.f (k : Nat) (l0 : List Int) : Option (Bool) := impl_FormValid.l0 k l0 l0 (l0.length : Int) 0
theorem impl_FormValid.mono_l : ∀ k, (∀ y0 y1 y2 y3, LeO (impl_FormValid.l0 k y0 y1 y2 y3) (impl_FormValid.l0 (k + 1) y0 y1 y2 y3))
  | 0 => fun _ _ _ _ r h => by simp [impl_FormValid.l0] at h
  | k + 1 => by
    have ih0 := impl_FormValid.mono_l k
    · intro y0 y1 y2 y3
      unfold impl_FormValid.l0
      repeat' first
      | (with_reducible exact ih0 _ _ _ _)
      | (with_reducible exact LeO.refl _)
      | (with_reducible exact LeO.none _)
      | (with_reducible refine LeO.ite ?_ ?_)
      | (with_reducible refine LeO.bind ?_ (fun _ => ?_))
      | exact ih0 _ _ _ _
      | exact LeO.none _
      | refine LeO.ite ?_ ?_
      | refine LeO.bind ?_ (fun _ => ?_)
theorem impl_FormValid.mono : ∀ a0 k, LeO (impl_FormValid.f k a0) (impl_FormValid.f (k + 1) a0) := by
  intro a0 k
  have ih0 := impl_FormValid.mono_l k
  unfold impl_FormValid.f
  repeat' first
      | (with_reducible exact ih0 _ _ _ _)
      | (with_reducible exact LeO.refl _)
      | (with_reducible exact LeO.none _)
      | (with_reducible refine LeO.ite ?_ ?_)
      | (with_reducible refine LeO.bind ?_ (fun _ => ?_))
      | exact ih0 _ _ _ _
      | exact LeO.none _
      | refine LeO.ite ?_ ?_
      | refine LeO.bind ?_ (fun _ => ?_)
set_option maxHeartbeats 8000000 in
set_option maxRecDepth 100000 in
theorem impl_FormValid.calls (k : Nat) (A0 : Option Addr) (c0 : Nat) (l0 : List Int) (r : Bool) (w : World) (hr0 : Kd.C (Kd.int .i64) w A0 l0.length l0) (hc0 : l0.length ≤ c0) (h : impl_FormValid.f k l0 = some r) :
    Calls Try.prog 60 #[.slice A0 l0.length c0] w fun e w' => e = .returned (.bool r) ∧ Below w.heap.size w w' := by
  have HR0 := Aside0.mk hr0; have HC0 := Aside0.mk hc0; clear hr0 hc0; have HB := Aside0.mk (Below.refl w.heap.size w); unfold impl_FormValid.f at h; have H := h; clear h; have H' := Aside0.mk H; clear H; go_enter Try.func60, Try.ntmps60
  go_wp2
  go_loopg [7] k (fun kq v7 w' => ∃ (x7_1 : Int), v7 = .int .i64 x7_1 ∧ Aside0 (impl_FormValid.l0 kq l0 l0 (l0.length : Int) x7_1 = some r) ∧ Aside0 (kq ≤ k) ∧ Aside0 (Below w.heap.size w w'))
  case atStart => exact ⟨(0), sR, H', ⟨Nat.le_refl _⟩, ⟨BU⟩⟩
  case round =>
    clear H'; obtain ⟨x7_1, rfl, HA, HK1, HB⟩ := hrel; cases gk with
    | zero => exact absurd HA.out (by simp [impl_FormValid.l0])
    | succ k1 =>
      have H := HA.out; clear HA; simp only [impl_FormValid.l0] at H
      by_cases c2 : x7_1 < (l0.length : Int)
      · rw [if_pos c2] at H
        have c2b0 : decide (x7_1 < (l0.length : Int)) = true := decide_eq_true c2; clear c2; obtain ⟨c3, H⟩ := ifN H; have c3b0 : decide (0 ≤ x7_1) = true := decide_eq_true c3; clear c3; obtain ⟨c4, H⟩ := ifN H; have c4b0 : decide (x7_1 < (l0.length : Int)) = true := decide_eq_true c4; clear c4
        by_cases c5 : (rd l0 x7_1) = 0
        · rw [if_pos c5] at H
          have c5b0 : ((rd l0 x7_1) == 0) = true := beq_iff_eq.mpr c5; have c5b1 : ((rd l0 x7_1) != 0) = false := bne_eq_false_iff_eq.mpr c5; clear c5; obtain rfl := Option.some.inj H; have p373 : 0 ≤ (x7_1 : Int) := oD; have q373 : x7_1 < (l0.length : Int) := oD; obtain ⟨ad373, e373, hx373_0⟩ := Kd.at_int HR0.out x7_1 p373 q373; cases e373; replace hx373_0 := (HB.out.cell (World.block_lt_of_cell? w _ hx373_0)).trans hx373_0; replace p373 := eq_true p373; replace q373 := eq_true q373
          go_wp2
          go_ret
          exact ⟨eR, BU⟩
        rw [if_neg c5] at H; have c5b0 : ((rd l0 x7_1) == 0) = false := beq_eq_false_iff_ne.mpr c5; have c5b1 : ((rd l0 x7_1) != 0) = true := bne_iff_ne.mpr c5; obtain ⟨t374, A6, H⟩ := bnd H
        by_cases c7 : t374 > 30
        · rw [if_pos c7] at H
          have c7b0 : decide (30 < t374) = true := decide_eq_true c7; clear c7; obtain rfl := Option.some.inj H; have p373 : 0 ≤ (x7_1 : Int) := oD; have q373 : x7_1 < (l0.length : Int) := oD; obtain ⟨ad373, e373, hx373_0⟩ := Kd.at_int HR0.out x7_1 p373 q373; cases e373; replace hx373_0 := (HB.out.cell (World.block_lt_of_cell? w _ hx373_0)).trans hx373_0; replace p373 := eq_true p373; replace q373 := eq_true q373
          go_wp2_with (first | (go_at_call 39; (with_reducible refine (impl_size.calls (rd l0 x7_1) t374 _ A6.out).mono ?_); rintro e w8 ⟨rfl, hb⟩; replace HB := BS hb; (try clear hb)))
          go_ret
          exact ⟨eR, BU⟩
        rw [if_neg c7] at H; have c7b0 : decide (30 < t374) = false := decide_eq_false c7; clear c7; have H' := Aside0.mk H; clear H; have p373 : 0 ≤ (x7_1 : Int) := oD; have q373 : x7_1 < (l0.length : Int) := oD; obtain ⟨ad373, e373, hx373_0⟩ := Kd.at_int HR0.out x7_1 p373 q373; cases e373; replace hx373_0 := (HB.out.cell (World.block_lt_of_cell? w _ hx373_0)).trans hx373_0; replace p373 := eq_true p373; replace q373 := eq_true q373
        go_wp2_with (first | (go_at_call 39; (with_reducible refine (impl_size.calls (rd l0 x7_1) t374 _ A6.out).mono ?_); rintro e w9 ⟨rfl, hb⟩; replace HB := BS hb; (try clear hb)))
        go_roundg k1
        case measure => have := HK1.out; omega
        case rel => exact ⟨(wrap64 (x7_1 + 1)), sR, H', ⟨by have := HK1.out; omega⟩, ⟨BU⟩⟩
      rw [if_neg c2] at H; have c2b0 : decide (x7_1 < (l0.length : Int)) = false := decide_eq_false c2; clear c2
      by_cases c10 : (l0.length : Int) ≥ 1
      · rw [if_pos c10] at H
        have c10b0 : decide (1 ≤ (l0.length : Int)) = true := decide_eq_true c10; have c10b1 : decide (1 ≤ l0.length) = true := decide_eq_true (by omega); clear c10; obtain rfl := Option.some.inj H
        go_wp2
        go_ret
        exact ⟨eR, BU⟩
      rw [if_neg c10] at H; have c10b0 : decide (1 ≤ (l0.length : Int)) = false := decide_eq_false c10; have c10b1 : decide (1 ≤ l0.length) = false := decide_eq_false (by omega); clear c10; obtain rfl := Option.some.inj H
      go_wp2
      go_ret
      exact ⟨eR, BU⟩

/-! ### impl_ZeroIs: function 31 -/
def impl_ZeroIs.j0 : Nat → List Int → List Int → Bool → Option (Bool)
  | 0, _, _, _ => none
  | k + 1, x0, x1, x13 => if x13 = true then (some false) else ((impl_gcd.f k x1).bind fun t377 => (if t377 = 0 then (some false) else ((impl_pair.f k x0 x1 x1).bind fun t378 => (some (t378 == 0)))))
def impl_ZeroIs.f (k : Nat) (l0 : List Int) (l1 : List Int) : Option (Bool) := (impl_FormValid.f k l0).bind fun t375 => (if t375 = true then ((impl_vectorOk.f k l0 l1 1000000).bind fun t376 => (impl_ZeroIs.j0 k l0 l1 (!t376))) else (impl_ZeroIs.j0 k l0 l1 true))
theorem impl_ZeroIs.mono_l : ∀ k, (∀ y0 y1 y2, LeO (impl_ZeroIs.j0 k y0 y1 y2) (impl_ZeroIs.j0 (k + 1) y0 y1 y2))
  | 0 => fun _ _ _ r h => by simp [impl_ZeroIs.j0] at h
  | k + 1 => by
    have ih0 := impl_ZeroIs.mono_l k
    · intro y0 y1 y2
      unfold impl_ZeroIs.j0
      repeat' first
      | (with_reducible exact ih0 _ _ _)
      | (with_reducible exact impl_FormValid.mono _ _)
      | (with_reducible exact impl_gcd.mono _ _)
      | (with_reducible exact impl_pair.mono _ _ _ _)
      | (with_reducible exact impl_vectorOk.mono _ _ _ _)
      | (with_reducible exact LeO.refl _)
      | (with_reducible exact LeO.none _)
      | (with_reducible refine LeO.ite ?_ ?_)
      | (with_reducible refine LeO.bind ?_ (fun _ => ?_))
      | exact ih0 _ _ _
      | exact impl_FormValid.mono _ _
      | exact impl_gcd.mono _ _
      | exact impl_pair.mono _ _ _ _
      | exact impl_vectorOk.mono _ _ _ _
      | exact LeO.none _
      | refine LeO.ite ?_ ?_
      | refine LeO.bind ?_ (fun _ => ?_)
theorem impl_ZeroIs.mono : ∀ a0 a1 k, LeO (impl_ZeroIs.f k a0 a1) (impl_ZeroIs.f (k + 1) a0 a1) := by
  intro a0 a1 k
  have ih0 := impl_ZeroIs.mono_l k
  unfold impl_ZeroIs.f
  repeat' first
      | (with_reducible exact ih0 _ _ _)
      | (with_reducible exact impl_FormValid.mono _ _)
      | (with_reducible exact impl_gcd.mono _ _)
      | (with_reducible exact impl_pair.mono _ _ _ _)
      | (with_reducible exact impl_vectorOk.mono _ _ _ _)
      | (with_reducible exact LeO.refl _)
      | (with_reducible exact LeO.none _)
      | (with_reducible refine LeO.ite ?_ ?_)
      | (with_reducible refine LeO.bind ?_ (fun _ => ?_))
      | exact ih0 _ _ _
      | exact impl_FormValid.mono _ _
      | exact impl_gcd.mono _ _
      | exact impl_pair.mono _ _ _ _
      | exact impl_vectorOk.mono _ _ _ _
      | exact LeO.none _
      | refine LeO.ite ?_ ?_
      | refine LeO.bind ?_ (fun _ => ?_)
set_option maxHeartbeats 8000000 in
set_option maxRecDepth 100000 in
theorem impl_ZeroIs.calls (k : Nat) (A0 : Option Addr) (c0 : Nat) (l0 : List Int) (A1 : Option Addr) (c1 : Nat) (l1 : List Int) (r : Bool) (w : World) (hr0 : Kd.C (Kd.int .i64) w A0 l0.length l0) (hc0 : l0.length ≤ c0) (hr1 : Kd.C (Kd.int .i64) w A1 l1.length l1) (hc1 : l1.length ≤ c1) (h : impl_ZeroIs.f k l0 l1 = some r) :
    Calls Try.prog 31 #[.slice A0 l0.length c0, .slice A1 l1.length c1] w fun e w' => e = .returned (.bool r) ∧ Below w.heap.size w w' := by
  have HR0 := Aside0.mk hr0; have HC0 := Aside0.mk hc0; clear hr0 hc0; have HR1 := Aside0.mk hr1; have HC1 := Aside0.mk hc1; clear hr1 hc1; have HB := Aside0.mk (Below.refl w.heap.size w); unfold impl_ZeroIs.f at h; have H := h; clear h; have HC3 := Aside0.mk H; clear H; go_enter Try.func31, Try.ntmps31
  go_upto_region 1 with (fail)
  go_cut [13] (fun v13 wc => ∃ (kq : Nat) (x13_2 : Bool), v13 = .bool x13_2 ∧ Aside0 (impl_ZeroIs.j0 kq l0 l1 x13_2 = some r) ∧ Aside0 (kq ≤ k) ∧ Aside0 (Below w.heap.size w wc))
  case first =>
    have H := HC3.out; clear HC3; obtain ⟨t375, A4, H⟩ := bnd H
    by_cases c5 : t375 = true
    · subst c5
      replace H := ifT H; obtain ⟨t376, A6, H⟩ := bnd H; have H' := Aside0.mk H; clear H
      go_wp2_with (first | ((with_reducible refine gate_callee (f := 60) rfl ?_); refine goesK (some 6) Try.func60 #[.slice A0 l0.length c0] ?_; (with_reducible refine (impl_FormValid.calls k _ _ l0 true _ ?side1 ?side2 A4.out).mono ?_); (case side1 => exact U (Kd.C_below HR0.out HB.out)); (case side2 => exact HC0.out); rintro e w7 ⟨rfl, hb⟩; refine ⟨_, rfl, ?_⟩; replace HB := BS hb; (try clear hb)) | (go_at_call 30; (with_reducible refine (impl_vectorOk.calls k _ _ l0 _ _ l1 1000000 t376 _ ?side1 ?side2 ?side3 ?side4 A6.out).mono ?_); (case side1 => exact U (Kd.C_below HR0.out HB.out)); (case side2 => exact HC0.out); (case side3 => exact U (Kd.C_below HR1.out HB.out)); (case side4 => exact HC1.out); rintro e w' ⟨rfl, ⟨nd, rfl⟩⟩))
      go_meet
      case rel => exact ⟨_, (!t376), sR, H', ⟨oR⟩, ⟨BU⟩⟩
    replace c5 := Bool.eq_false_iff.mpr c5; subst c5; replace H := ifF H; have H' := Aside0.mk H; clear H
    go_wp2_with (first | ((with_reducible refine gate_callee (f := 60) rfl ?_); refine goesK (some 6) Try.func60 #[.slice A0 l0.length c0] ?_; (with_reducible refine (impl_FormValid.calls k _ _ l0 false _ ?side1 ?side2 A4.out).mono ?_); (case side1 => exact U (Kd.C_below HR0.out HB.out)); (case side2 => exact HC0.out); rintro e w8 ⟨rfl, hb⟩; refine ⟨_, rfl, ?_⟩; replace HB := BS hb; (try clear hb)))
    go_meet
    case rel => exact ⟨_, (true), sR, H', ⟨oR⟩, ⟨BU⟩⟩
  case rest =>
    clear HC3; obtain ⟨kq, x13_2, rfl, HA, HJ2, HB⟩ := hcut; cases kq with
    | zero => exact absurd HA.out (by simp [impl_ZeroIs.j0])
    | succ kj2 =>
      have H := HA.out; clear HA; simp only [impl_ZeroIs.j0] at H
      by_cases c9 : x13_2 = true
      · subst c9
        replace H := ifT H; obtain rfl := Option.some.inj H
        go_wp2
        go_ret
        exact ⟨eR, BU⟩
      replace c9 := Bool.eq_false_iff.mpr c9; subst c9; replace H := ifF H; obtain ⟨t377, A10, H⟩ := bnd H
      by_cases c11 : t377 = 0
      · rw [if_pos c11] at H
        have c11b0 : (t377 == 0) = true := beq_iff_eq.mpr c11; have c11b1 : (t377 != 0) = false := bne_eq_false_iff_eq.mpr c11; clear c11; obtain rfl := Option.some.inj H
        go_wp2_with (first | ((with_reducible refine gate_callee (f := 52) rfl ?_); refine goesK (some 15) Try.func52 #[.slice A1 l1.length c1] ?_; (with_reducible refine (impl_gcd.calls kj2 _ _ l1 t377 _ ?side1 ?side2 A10.out).mono ?_); (case side1 => exact U (Kd.C_below HR1.out HB.out)); (case side2 => exact HC1.out); rintro e w12 ⟨rfl, hb⟩; refine ⟨_, rfl, ?_⟩; replace HB := BS hb; (try clear hb)))
        go_ret
        exact ⟨eR, BU⟩
      rw [if_neg c11] at H; have c11b0 : (t377 == 0) = false := beq_eq_false_iff_ne.mpr c11; have c11b1 : (t377 != 0) = true := bne_iff_ne.mpr c11; obtain ⟨t378, A13, H⟩ := bnd H; obtain rfl := Option.some.inj H
      go_wp2_with (first | ((with_reducible refine gate_callee (f := 52) rfl ?_); refine goesK (some 15) Try.func52 #[.slice A1 l1.length c1] ?_; (with_reducible refine (impl_gcd.calls kj2 _ _ l1 t377 _ ?side1 ?side2 A10.out).mono ?_); (case side1 => exact U (Kd.C_below HR1.out HB.out)); (case side2 => exact HC1.out); rintro e w14 ⟨rfl, hb⟩; refine ⟨_, rfl, ?_⟩; replace HB := BS hb; (try clear hb)) | (go_at_call 43; (with_reducible refine (impl_pair.calls kj2 _ _ l0 _ _ l1 _ _ l1 t378 _ ?side1 ?side2 ?side3 ?side4 ?side5 ?side6 A13.out).mono ?_); (case side1 => exact U (Kd.C_below HR0.out HB.out)); (case side2 => exact HC0.out); (case side3 => exact U (Kd.C_below HR1.out HB.out)); (case side4 => exact HC1.out); (case side5 => exact U (Kd.C_below HR1.out HB.out)); (case side6 => exact HC1.out); rintro e w' ⟨rfl, ⟨nd, rfl⟩⟩))
      go_ret
      exact ⟨eR, BU⟩

/-! ### slices_Equal_int_int: function 32 -/
def slices_Equal_int_int.l0 : Nat → List Int → List Int → Int → Int → Option (Bool)
  | 0, _, _, _, _ => none
  | k + 1, x0, x1, x12, x13 => if x13 < x12 then (if 0 ≤ x13 then (if x13 < (x0.length : Int) then (if x13 < (x1.length : Int) then (if (rd x0 x13) = (rd x1 x13) then (slices_Equal_int_int.l0 k x0 x1 x12 (wrap64 (x13 + 1))) else (some false)) else (none)) else (none)) else (none)) else (some true)
def slices_Equal_int_int.f (k : Nat) (l0 : List Int) (l1 : List Int) : Option (Bool) := if (l0.length : Int) = (l1.length : Int) then (slices_Equal_int_int.l0 k l0 l1 (l0.length : Int) 0) else (some false)
theorem slices_Equal_int_int.mono_l : ∀ k, (∀ y0 y1 y2 y3, LeO (slices_Equal_int_int.l0 k y0 y1 y2 y3) (slices_Equal_int_int.l0 (k + 1) y0 y1 y2 y3))
  | 0 => fun _ _ _ _ r h => by simp [slices_Equal_int_int.l0] at h
  | k + 1 => by
    have ih0 := slices_Equal_int_int.mono_l k
    · intro y0 y1 y2 y3
      unfold slices_Equal_int_int.l0
      repeat' first
      | (with_reducible exact ih0 _ _ _ _)
      | (with_reducible exact LeO.refl _)
      | (with_reducible exact LeO.none _)
      | (with_reducible refine LeO.ite ?_ ?_)
      | (with_reducible refine LeO.bind ?_ (fun _ => ?_))
      | exact ih0 _ _ _ _
      | exact LeO.none _
      | refine LeO.ite ?_ ?_
      | refine LeO.bind ?_ (fun _ => ?_)
theorem slices_Equal_int_int.mono : ∀ a0 a1 k, LeO (slices_Equal_int_int.f k a0 a1) (slices_Equal_int_int.f (k + 1) a0 a1) := by
  intro a0 a1 k
  have ih0 := slices_Equal_int_int.mono_l k
  unfold slices_Equal_int_int.f
  repeat' first
      | (with_reducible exact ih0 _ _ _ _)
      | (with_reducible exact LeO.refl _)
      | (with_reducible exact LeO.none _)
      | (with_reducible refine LeO.ite ?_ ?_)
      | (with_reducible refine LeO.bind ?_ (fun _ => ?_))
      | exact ih0 _ _ _ _
      | exact LeO.none _
      | refine LeO.ite ?_ ?_
      | refine LeO.bind ?_ (fun _ => ?_)
set_option maxHeartbeats 8000000 in
set_option maxRecDepth 100000 in
theorem slices_Equal_int_int.calls (k : Nat) (A0 : Option Addr) (c0 : Nat) (l0 : List Int) (A1 : Option Addr) (c1 : Nat) (l1 : List Int) (r : Bool) (w : World) (hr0 : Kd.C (Kd.int .i64) w A0 l0.length l0) (hc0 : l0.length ≤ c0) (hr1 : Kd.C (Kd.int .i64) w A1 l1.length l1) (hc1 : l1.length ≤ c1) (h : slices_Equal_int_int.f k l0 l1 = some r) :
    Calls Try.prog 32 #[.slice A0 l0.length c0, .slice A1 l1.length c1] w fun e w' => e = .returned (.bool r) ∧ Drawn0 w w' := by
  have HR0 := Aside0.mk hr0; have HC0 := Aside0.mk hc0; clear hr0 hc0; have HR1 := Aside0.mk hr1; have HC1 := Aside0.mk hc1; clear hr1 hc1; unfold slices_Equal_int_int.f at h; have H := h; clear h
  by_cases c3 : (l0.length : Int) = (l1.length : Int)
  · rw [if_pos c3] at H
    have c3b0 : ((l0.length : Int) == (l1.length : Int)) = true := beq_iff_eq.mpr c3; have c3b1 : ((l0.length : Int) != (l1.length : Int)) = false := bne_eq_false_iff_eq.mpr c3
    have c3b2 : (l0.length == l1.length) = true := by first | simpa using c3 | (simp at c3 ⊢; omega)
    clear c3; have H' := Aside0.mk H; clear H; go_enter Try.func32, Try.ntmps32
    go_wp2
    repeat (go_quiet (fail); try go_wp2)
    go_loopg [13] k (fun kq v13 w' => ∃ (x13_1 : Int), v13 = .int .i64 x13_1 ∧ Aside0 (slices_Equal_int_int.l0 kq l0 l1 (l0.length : Int) x13_1 = some r) ∧ Aside0 (kq ≤ k) ∧ Drawn0 w w')
    case atStart => exact ⟨(0), sR, H', ⟨Nat.le_refl _⟩, by repeat (first | exact Drawn0.refl _ | apply Drawn0.step)⟩
    case round =>
      clear H'; (try clear c3); (try clear c3b0); (try clear c3b1); (try clear c3b2); obtain ⟨x13_1, rfl, HA, HK1, ⟨m1, rfl⟩⟩ := hrel; cases gk with
      | zero => exact absurd HA.out (by simp [slices_Equal_int_int.l0])
      | succ k1 =>
        have H := HA.out; clear HA; simp only [slices_Equal_int_int.l0] at H
        by_cases c4 : x13_1 < (l0.length : Int)
        · rw [if_pos c4] at H
          have c4b0 : decide (x13_1 < (l0.length : Int)) = true := decide_eq_true c4; clear c4; obtain ⟨c5, H⟩ := ifN H; have c5b0 : decide (0 ≤ x13_1) = true := decide_eq_true c5; clear c5; obtain ⟨c6, H⟩ := ifN H; have c6b0 : decide (x13_1 < (l0.length : Int)) = true := decide_eq_true c6; clear c6; obtain ⟨c7, H⟩ := ifN H; have c7b0 : decide (x13_1 < (l1.length : Int)) = true := decide_eq_true c7; clear c7
          by_cases c8 : (rd l0 x13_1) = (rd l1 x13_1)
          · rw [if_pos c8] at H
            have c8b0 : ((rd l0 x13_1) == (rd l1 x13_1)) = true := beq_iff_eq.mpr c8; have c8b1 : ((rd l0 x13_1) != (rd l1 x13_1)) = false := bne_eq_false_iff_eq.mpr c8; clear c8; have H' := Aside0.mk H; clear H; have p379 : 0 ≤ (x13_1 : Int) := oD; have q379 : x13_1 < (l0.length : Int) := oD; obtain ⟨ad379, e379, hx379_0⟩ := Kd.at_int HR0.out x13_1 p379 q379; cases e379; replace p379 := eq_true p379; replace q379 := eq_true q379; have p380 : 0 ≤ (x13_1 : Int) := oD; have q380 : x13_1 < (l1.length : Int) := oD; obtain ⟨ad380, e380, hx380_0⟩ := Kd.at_int HR1.out x13_1 p380 q380; cases e380; replace p380 := eq_true p380; replace q380 := eq_true q380
            go_wp2
            repeat (go_quiet (fail); try go_wp2)
            go_roundg k1
            case measure => have := HK1.out; omega
            case rel => exact ⟨(wrap64 (x13_1 + 1)), sR, H', ⟨by have := HK1.out; omega⟩, by repeat (first | exact Drawn0.refl _ | apply Drawn0.step)⟩
          rw [if_neg c8] at H; have c8b0 : ((rd l0 x13_1) == (rd l1 x13_1)) = false := beq_eq_false_iff_ne.mpr c8; have c8b1 : ((rd l0 x13_1) != (rd l1 x13_1)) = true := bne_iff_ne.mpr c8; obtain rfl := Option.some.inj H; have p379 : 0 ≤ (x13_1 : Int) := oD; have q379 : x13_1 < (l0.length : Int) := oD; obtain ⟨ad379, e379, hx379_0⟩ := Kd.at_int HR0.out x13_1 p379 q379; cases e379; replace p379 := eq_true p379; replace q379 := eq_true q379; have p380 : 0 ≤ (x13_1 : Int) := oD; have q380 : x13_1 < (l1.length : Int) := oD; obtain ⟨ad380, e380, hx380_0⟩ := Kd.at_int HR1.out x13_1 p380 q380; cases e380; replace p380 := eq_true p380; replace q380 := eq_true q380
          go_wp2
          repeat (go_quiet (fail); try go_wp2)
          go_ret
          exact ⟨by first | rfl | (simp; done) | (simp [*]; done), by repeat (first | exact Drawn0.refl _ | apply Drawn0.step)⟩
        rw [if_neg c4] at H; have c4b0 : decide (x13_1 < (l0.length : Int)) = false := decide_eq_false c4; clear c4; obtain rfl := Option.some.inj H
        go_wp2
        repeat (go_quiet (fail); try go_wp2)
        go_ret
        exact ⟨by first | rfl | (simp; done) | (simp [*]; done), by repeat (first | exact Drawn0.refl _ | apply Drawn0.step)⟩
  rw [if_neg c3] at H; have c3b0 : ((l0.length : Int) == (l1.length : Int)) = false := beq_eq_false_iff_ne.mpr c3; have c3b1 : ((l0.length : Int) != (l1.length : Int)) = true := bne_iff_ne.mpr c3
  have c3b2 : (l0.length == l1.length) = false := by first | simpa using c3 | (simp at c3 ⊢; omega)
  obtain rfl := Option.some.inj H; go_enter Try.func32, Try.ntmps32
  go_wp2
  repeat (go_quiet (fail); try go_wp2)
  go_ret
  exact ⟨by first | rfl | (simp; done) | (simp [*]; done), by repeat (first | exact Drawn0.refl _ | apply Drawn0.step)⟩

/-! ### impl_plain: function 33 -/
mutual
def impl_plain.j1 : Nat → List Int → Int → Option (List Int)
  | 0, _, _ => none
  | k + 1, x0, x3 => impl_plain.l1 k x3 (([] : List Int)) x0 (x0.length : Int) 0
def impl_plain.l1 : Nat → Int → List Int → List Int → Int → Int → Option (List Int)
  | 0, _, _, _, _, _ => none
  | k + 1, x3, x6, x25, x26, x27 => if x27 < x26 then (if 0 ≤ x27 then (if x27 < (x25.length : Int) then (if x3 = 0 then (none) else (if x6.length < 17592186044416 then (impl_plain.l1 k x3 (x6 ++ [wrap64 (Int.tdiv (rd x25 x27) x3)]) x25 x26 (wrap64 (x27 + 1))) else (none))) else (none)) else (none)) else (some x6)
def impl_plain.l0 : Nat → List Int → Int → List Int → Int → Int → Option (List Int)
  | 0, _, _, _, _, _ => none
  | k + 1, x0, x3, x11, x12, x13 => if x13 < x12 then (if 0 ≤ x13 then (if x13 < (x11.length : Int) then (if (rd x11 x13) = 0 then (impl_plain.l0 k x0 x3 x11 x12 (wrap64 (x13 + 1))) else (if (rd x11 x13) < 0 then (impl_plain.j1 k x0 (wrap64 (-x3))) else (impl_plain.j1 k x0 x3))) else (none)) else (none)) else (impl_plain.j1 k x0 x3)
end
def impl_plain.f (k : Nat) (l0 : List Int) : Option (List Int) := (impl_gcd.f k l0).bind fun t381 => (impl_plain.l0 k l0 t381 l0 (l0.length : Int) 0)
theorem impl_plain.mono_l : ∀ k, (∀ y0 y1, LeO (impl_plain.j1 k y0 y1) (impl_plain.j1 (k + 1) y0 y1)) ∧ (∀ y0 y1 y2 y3 y4, LeO (impl_plain.l1 k y0 y1 y2 y3 y4) (impl_plain.l1 (k + 1) y0 y1 y2 y3 y4)) ∧ (∀ y0 y1 y2 y3 y4, LeO (impl_plain.l0 k y0 y1 y2 y3 y4) (impl_plain.l0 (k + 1) y0 y1 y2 y3 y4))
  | 0 => ⟨fun _ _ r h => by simp [impl_plain.j1] at h, fun _ _ _ _ _ r h => by simp [impl_plain.l1] at h, fun _ _ _ _ _ r h => by simp [impl_plain.l0] at h⟩
  | k + 1 => by
    obtain ⟨ih0, ih1, ih2⟩ := impl_plain.mono_l k
    refine ⟨?_, ?_, ?_⟩ <;> intros <;> (first | unfold impl_plain.j1 | unfold impl_plain.l1 | unfold impl_plain.l0) <;> (repeat' first
      | (with_reducible exact ih0 _ _)
      | (with_reducible exact ih1 _ _ _ _ _)
      | (with_reducible exact ih2 _ _ _ _ _)
      | (with_reducible exact impl_gcd.mono _ _)
      | (with_reducible exact LeO.refl _)
      | (with_reducible exact LeO.none _)
      | (with_reducible refine LeO.ite ?_ ?_)
      | (with_reducible refine LeO.bind ?_ (fun _ => ?_))
      | exact ih0 _ _
      | exact ih1 _ _ _ _ _
      | exact ih2 _ _ _ _ _
      | exact impl_gcd.mono _ _
      | exact LeO.none _
      | refine LeO.ite ?_ ?_
      | refine LeO.bind ?_ (fun _ => ?_))
theorem impl_plain.mono : ∀ a0 k, LeO (impl_plain.f k a0) (impl_plain.f (k + 1) a0) := by
  intro a0 k
  obtain ⟨ih0, ih1, ih2⟩ := impl_plain.mono_l k
  unfold impl_plain.f
  repeat' first
      | (with_reducible exact ih0 _ _)
      | (with_reducible exact ih1 _ _ _ _ _)
      | (with_reducible exact ih2 _ _ _ _ _)
      | (with_reducible exact impl_gcd.mono _ _)
      | (with_reducible exact LeO.refl _)
      | (with_reducible exact LeO.none _)
      | (with_reducible refine LeO.ite ?_ ?_)
      | (with_reducible refine LeO.bind ?_ (fun _ => ?_))
      | exact ih0 _ _
      | exact ih1 _ _ _ _ _
      | exact ih2 _ _ _ _ _
      | exact impl_gcd.mono _ _
      | exact LeO.none _
      | refine LeO.ite ?_ ?_
      | refine LeO.bind ?_ (fun _ => ?_)
set_option maxHeartbeats 8000000 in
set_option maxRecDepth 100000 in
theorem impl_plain.calls (k : Nat) (A0 : Option Addr) (c0 : Nat) (l0 : List Int) (r : List Int) (w : World) (hr0 : Kd.C (Kd.int .i64) w A0 l0.length l0) (hc0 : l0.length ≤ c0) (h : impl_plain.f k l0 = some r) :
    Calls Try.prog 33 #[.slice A0 l0.length c0] w fun e w' => ∃ v0_ : Value, e = .returned (v0_) ∧ Kd.R (Kd.int .i64) 3 w' w.heap.size (fun _ => True) v0_ r ∧ Below w.heap.size w w' := by
  have HR0 := Aside0.mk hr0; have HC0 := Aside0.mk hc0; clear hr0 hc0; have HB := Aside0.mk (Below.refl w.heap.size w); unfold impl_plain.f at h; have H := h; clear h; obtain ⟨t381, A2, H⟩ := bnd H; have HC3 := Aside0.mk H; clear H; go_enter Try.func33, Try.ntmps33
  go_upto_block 0 with (first | ((with_reducible refine gate_callee (f := 52) rfl ?_); refine goesK (some 10) Try.func52 #[.slice A0 l0.length c0] ?_; (with_reducible refine (impl_gcd.calls k _ _ l0 t381 _ ?side1 ?side2 A2.out).mono ?_); (case side1 => exact U HR0.out); (case side2 => exact HC0.out); rintro e w4 ⟨rfl, hb⟩; refine ⟨_, rfl, ?_⟩; replace HB := BS hb; (try clear hb)))
  (try simp only [Act.put, List.setIfInBounds_toArray, List.set_cons_zero, List.set_cons_succ])
  go_cut [3] (fun v3 wc => ∃ (kq : Nat) (x3_2 : Int), v3 = .int .i64 x3_2 ∧ Aside0 (impl_plain.j1 kq l0 x3_2 = some r) ∧ Aside0 (kq ≤ k) ∧ Aside0 (Below w.heap.size w wc))
  case first =>
    have H := HC3.out; clear HC3; have H' := Aside0.mk H; clear H
    go_wp2
    go_loopg [3, 13] k (fun kq v3 v13 w' => ∃ (x3_1 : Int) (x13_1 : Int), v3 = .int .i64 x3_1 ∧ v13 = .int .i64 x13_1 ∧ Aside0 (impl_plain.l0 kq l0 x3_1 l0 (l0.length : Int) x13_1 = some r) ∧ Aside0 (kq ≤ k) ∧ Aside0 (Below w.heap.size w w'))
    case atStart => exact ⟨(t381), (0), sR, sR, H', ⟨Nat.le_refl _⟩, ⟨BU⟩⟩
    case round =>
      clear H'; obtain ⟨x3_1, x13_1, rfl, rfl, HA, HK1, HB⟩ := hrel; cases gk with
      | zero => exact absurd HA.out (by simp [impl_plain.l0])
      | succ k1 =>
        have H := HA.out; clear HA; simp only [impl_plain.l0] at H
        by_cases c5 : x13_1 < (l0.length : Int)
        · rw [if_pos c5] at H
          have c5b0 : decide (x13_1 < (l0.length : Int)) = true := decide_eq_true c5; clear c5
          (first | rw [c5b0] | (simp only [i64_w, i32_w]; rw [c5b0]) | skip)
          obtain ⟨c6, H⟩ := ifN H; have c6b0 : decide (0 ≤ x13_1) = true := decide_eq_true c6; clear c6; obtain ⟨c7, H⟩ := ifN H; have c7b0 : decide (x13_1 < (l0.length : Int)) = true := decide_eq_true c7; clear c7
          by_cases c8 : (rd l0 x13_1) = 0
          · rw [if_pos c8] at H
            have c8b0 : ((rd l0 x13_1) == 0) = true := beq_iff_eq.mpr c8; have c8b1 : ((rd l0 x13_1) != 0) = false := bne_eq_false_iff_eq.mpr c8; clear c8; have H' := Aside0.mk H; clear H; have p382 : 0 ≤ (x13_1 : Int) := oD; have q382 : x13_1 < (l0.length : Int) := oD; obtain ⟨ad382, e382, hx382_0⟩ := Kd.at_int HR0.out x13_1 p382 q382; cases e382; replace hx382_0 := (HB.out.cell (World.block_lt_of_cell? w _ hx382_0)).trans hx382_0; replace p382 := eq_true p382; replace q382 := eq_true q382
            go_wp2
            go_roundg k1
            case measure => have := HK1.out; omega
            case rel => exact ⟨(x3_1), (wrap64 (x13_1 + 1)), sR, sR, H', ⟨by have := HK1.out; omega⟩, ⟨BU⟩⟩
          rw [if_neg c8] at H; have c8b0 : ((rd l0 x13_1) == 0) = false := beq_eq_false_iff_ne.mpr c8; have c8b1 : ((rd l0 x13_1) != 0) = true := bne_iff_ne.mpr c8
          by_cases c9 : (rd l0 x13_1) < 0
          · rw [if_pos c9] at H
            have c9b0 : decide ((rd l0 x13_1) < 0) = true := decide_eq_true c9; clear c9; have H' := Aside0.mk H; clear H; have p382 : 0 ≤ (x13_1 : Int) := oD; have q382 : x13_1 < (l0.length : Int) := oD; obtain ⟨ad382, e382, hx382_0⟩ := Kd.at_int HR0.out x13_1 p382 q382; cases e382; replace hx382_0 := (HB.out.cell (World.block_lt_of_cell? w _ hx382_0)).trans hx382_0; replace p382 := eq_true p382; replace q382 := eq_true q382
            go_wp2
            go_meet
            case rel => exact ⟨_, (wrap64 (-x3_1)), sR, H', ⟨by have := HK1.out; first | omega | exact Nat.le_refl _⟩, ⟨BU⟩⟩
          rw [if_neg c9] at H; have c9b0 : decide ((rd l0 x13_1) < 0) = false := decide_eq_false c9; clear c9; have H' := Aside0.mk H; clear H; have p382 : 0 ≤ (x13_1 : Int) := oD; have q382 : x13_1 < (l0.length : Int) := oD; obtain ⟨ad382, e382, hx382_0⟩ := Kd.at_int HR0.out x13_1 p382 q382; cases e382; replace hx382_0 := (HB.out.cell (World.block_lt_of_cell? w _ hx382_0)).trans hx382_0; replace p382 := eq_true p382; replace q382 := eq_true q382
          go_wp2
          go_meet
          case rel => exact ⟨_, (x3_1), sR, H', ⟨by have := HK1.out; first | omega | exact Nat.le_refl _⟩, ⟨BU⟩⟩
        rw [if_neg c5] at H; have c5b0 : decide (x13_1 < (l0.length : Int)) = false := decide_eq_false c5; clear c5
        (first | rw [c5b0] | (simp only [i64_w, i32_w]; rw [c5b0]) | skip)
        have H' := Aside0.mk H; clear H
        go_wp2
        go_meet
        case rel => exact ⟨_, (x3_1), sR, H', ⟨by have := HK1.out; first | omega | exact Nat.le_refl _⟩, ⟨BU⟩⟩
  case rest =>
    clear HC3; obtain ⟨kq, x3_2, rfl, HA, HJ2, HB⟩ := hcut; cases kq with
    | zero => exact absurd HA.out (by simp [impl_plain.j1])
    | succ kj2 =>
      have H := HA.out; clear HA; simp only [impl_plain.j1] at H; obtain ⟨y383, hy383⟩ : ∃ y_ : List Int, y_ = (([] : List Int)) := ⟨_, rfl⟩; replace H : (impl_plain.l1 kj2 x3_2 y383 l0 (l0.length : Int) 0) = some r := rH hy383 H; have Ny383 := Aside0.mk hy383; clear hy383; have H' := Aside0.mk H; clear H
      go_wp2_with (first | ((with_reducible refine gate_dst (N := 24) rfl ?_); refine Kd.R_lit (Kd.int .i64) _ 3 ?hg (N := 24) ?hd (xs := ([] : List Int)) (inner := []) (ok := fun _ => True) (okp := fun _ => True) ?hr ?hp (fun _ hk => hk) trivial (Below.refl _ _) (Nat.le_refl _) (by simp) ?_; (case hd => rfl); (case hg => rfl); (case hr => first | (go_simp; done) | (go_simp; rfl)); (case hp => exact (Reps.none _ _)); intro v384 w10 ho11 hb hg_ hnew_; clear hg_ hnew_; (first | rw [← Ny383.out] at ho11 | (simp only [Int.reduceToNat] at ho11; rw [← Ny383.out] at ho11)); have HO385 := Aside0.mk (Kd.R_lower ho11 (below_size BU)); replace HB := BS hb; clear hb ho11))
      go_loopg [6, 27] kj2 (fun kq v6 v27 w' => ∃ (x6_2 : List Int) (x27_2 : Int), v27 = .int .i64 x27_2 ∧ Aside0 (impl_plain.l1 kq x3_2 x6_2 l0 (l0.length : Int) x27_2 = some r) ∧ Aside0 (kq ≤ kj2) ∧ Aside0 (Kd.R (Kd.int .i64) 3 w' w.heap.size (fun _ => True) v6 x6_2) ∧ Aside0 (Below w.heap.size w w'))
      case atStart => exact ⟨(y383), (0), sR, H', ⟨Nat.le_refl _⟩, ⟨U HO385.out⟩, ⟨BU⟩⟩
      case round =>
        clear H'; obtain ⟨x6_2, x27_2, rfl, HA, HK2, HO_6, HB⟩ := hrel; cases gk with
        | zero => exact absurd HA.out (by simp [impl_plain.l1])
        | succ k2 =>
          have H := HA.out; clear HA; simp only [impl_plain.l1] at H
          by_cases c12 : x27_2 < (l0.length : Int)
          · rw [if_pos c12] at H
            have c12b0 : decide (x27_2 < (l0.length : Int)) = true := decide_eq_true c12; clear c12; obtain ⟨c13, H⟩ := ifN H; have c13b0 : decide (0 ≤ x27_2) = true := decide_eq_true c13; clear c13; obtain ⟨c14, H⟩ := ifN H; have c14b0 : decide (x27_2 < (l0.length : Int)) = true := decide_eq_true c14; clear c14; obtain ⟨c15, H⟩ := ifM H; have c15b0 : (x3_2 == 0) = false := beq_eq_false_iff_ne.mpr c15; have c15b1 : (x3_2 != 0) = true := bne_iff_ne.mpr c15; obtain ⟨c16, H⟩ := ifN H; have LMc16 := Aside0.mk c16; clear c16; obtain ⟨y387, hy387⟩ : ∃ y_ : List Int, y_ = (x6_2 ++ [wrap64 (Int.tdiv (rd l0 x27_2) x3_2)]) := ⟨_, rfl⟩; replace H : (impl_plain.l1 k2 x3_2 y387 l0 (l0.length : Int) (wrap64 (x27_2 + 1))) = some r := rH hy387 H; have Ny387 := Aside0.mk hy387; clear hy387; have H' := Aside0.mk H; clear H; have p386 : 0 ≤ (x27_2 : Int) := oD; have q386 : x27_2 < (l0.length : Int) := oD; obtain ⟨ad386, e386, hx386_0⟩ := Kd.at_int HR0.out x27_2 p386 q386; cases e386; replace hx386_0 := (HB.out.cell (World.block_lt_of_cell? w _ hx386_0)).trans hx386_0; replace p386 := eq_true p386; replace q386 := eq_true q386
            go_wp2_with (first | ((with_reducible refine gate_builtin (b := .append) (xs := #[.tmp 31, .tmp 35]) rfl ?_); at_builtin; refine Kd.R_append (Kd.int .i64) (w0 := w) w.heap.size rfl (.tmp 31) (.tmp 35) 23 3 (.int .i64 0) 8 rfl Try.underlying23 info3 rfl (by decide) (by omega) u6 x6_2 (wrap64 (Int.tdiv (rd l0 x27_2) x3_2)) [.int .i64 (wrap64 (Int.tdiv (rd l0 x27_2) x3_2))] (fun _ => True) (fun _ => False) rfl rfl ?aP (fun _ hk => hk.elim) ?aF ?aO ?aB ?aS ?aL ?_; (case aP => exact rfl); (case aB => exact BU); (case aF => exact (fun _ _ => trivial)); (case aO => exact (U HO_6.out)); (case aS => exact (below_size BU)); (case aL => have := LMc16.out; omega); intro v388 w17 ho hb hg hat; rw [← Ny387.out] at ho; have n0_ := Aside0.mk (hb); have n1_ := Aside0.mk (ho); try clear HB; clear HO_6; have HB := n0_; have HO389 := n1_; clear n0_ n1_; clear ho hb hg hat))
            go_roundg k2
            case measure => have := HJ2.out; have := HK2.out; omega
            case rel => exact ⟨(y387), (wrap64 (x27_2 + 1)), sR, H', ⟨by have := HJ2.out; have := HK2.out; omega⟩, ⟨U HO389.out⟩, ⟨BU⟩⟩
          rw [if_neg c12] at H; have c12b0 : decide (x27_2 < (l0.length : Int)) = false := decide_eq_false c12; clear c12; obtain rfl := Option.some.inj H
          go_wp2
          go_ret
          exact ⟨_, eR, U HO_6.out, BU⟩

end Go.Proofs.Ytpaohkhmhdhibaa.PFnPoint
