-- Written by a program of this session (wip/print2.py): the functions that the law reaches, plain, and the walks.
import Derived.Test.YtpaohkhmhdhibaaPFnAtx0
import Derived.Test.YtpaohkhmhdhibaaPFnAtx9
import Derived.Test.YtpaohkhmhdhibaaPFnAtx14
import Derived.Test.YtpaohkhmhdhibaaPFnAtx15
namespace Go.Proofs.Ytpaohkhmhdhibaa.PFnAt
open Go.RowKit Go.Proofs.YtpaohkhmhdhibaaW.PrintWords Go.Proofs.YtpaohkhmhdhibaaW.PrintLast Go.Proofs.YtpaohkhmhdhibaaW.PrintMore
attribute [local go_sem] max2_int min2_int max_two min_two max_three min_three max_four min_four   -- for this text's walks alone
set_option linter.unusedVariables false
set_option linter.unusedSimpArgs false

/-! ### spec_ConicOther: function 18 -/
mutual
def spec_ConicOther.j0 : Nat → List Int → List Int → List Int → Bool → Option (List Int × Bool)
  | 0, _, _, _, _ => none
  | k + 1, x0, x1, x2, x26 => if x26 = true then (some ((([] : List Int)), false)) else ((spec_l4Value.f k x0 x2).bind fun t520 => ((spec_l5Pair.f k x0 x1 x2).bind fun t521 => (spec_ConicOther.l0 k x0 x1 x2 t520 t521 (([] : List Int)) 0)))
def spec_ConicOther.l0 : Nat → List Int → List Int → List Int → Int → Int → List Int → Int → Option (List Int × Bool)
  | 0, _, _, _, _, _, _, _ => none
  | k + 1, x0, x1, x2, x8, x9, x10, x11 => if x11 < 3 then (if 0 ≤ x11 then (if x11 < (x1.length : Int) then (if x11 < (x2.length : Int) then (if x10.length < 17592186044416 then (spec_ConicOther.l0 k x0 x1 x2 x8 x9 (x10 ++ [wrap64 ((wrap64 (x8 * (rd x1 x11))) - (wrap64 ((wrap64 (2 * x9)) * (rd x2 x11))))]) (wrap64 (x11 + 1))) else (none)) else (none)) else (none)) else (none)) else ((spec_l5Plain.f k x10).bind fun t530 => ((spec_ZeroIs.f k x0 t530).bind fun t533 => (if t533 = true then (some (t530, true)) else (some ((([] : List Int)), false)))))
end
def spec_ConicOther.f (k : Nat) (l0 : List Int) (l1 : List Int) (l2 : List Int) : Option (List Int × Bool) := (spec_ConicPoint.f k l0 l1).bind fun t514 => (if t514 = true then ((spec_l4Vector.f k l0 l2 20).bind fun t515 => (if t515 = true then ((spec_l6kMultiple.f k l1 l2).bind fun t516 => (spec_ConicOther.j0 k l0 l1 l2 t516)) else (spec_ConicOther.j0 k l0 l1 l2 true))) else (spec_ConicOther.j0 k l0 l1 l2 true))
theorem spec_ConicOther.mono_l : ∀ k, (∀ y0 y1 y2 y3, LeO (spec_ConicOther.j0 k y0 y1 y2 y3) (spec_ConicOther.j0 (k + 1) y0 y1 y2 y3)) ∧ (∀ y0 y1 y2 y3 y4 y5 y6, LeO (spec_ConicOther.l0 k y0 y1 y2 y3 y4 y5 y6) (spec_ConicOther.l0 (k + 1) y0 y1 y2 y3 y4 y5 y6))
  | 0 => ⟨fun _ _ _ _ r h => by simp [spec_ConicOther.j0] at h, fun _ _ _ _ _ _ _ r h => by simp [spec_ConicOther.l0] at h⟩
  | k + 1 => by
    obtain ⟨ih0, ih1⟩ := spec_ConicOther.mono_l k
    refine ⟨?_, ?_⟩ <;> intros <;> (first | unfold spec_ConicOther.j0 | unfold spec_ConicOther.l0) <;> (repeat' first
      | (with_reducible exact ih0 _ _ _ _)
      | (with_reducible exact ih1 _ _ _ _ _ _ _)
      | (with_reducible exact spec_ConicPoint.mono _ _ _)
      | (with_reducible exact spec_ZeroIs.mono _ _ _)
      | (with_reducible exact spec_l4Value.mono _ _ _)
      | (with_reducible exact spec_l4Vector.mono _ _ _ _)
      | (with_reducible exact spec_l5Pair.mono _ _ _ _)
      | (with_reducible exact spec_l5Plain.mono _ _)
      | (with_reducible exact spec_l6kMultiple.mono _ _ _)
      | (with_reducible exact LeO.refl _)
      | (with_reducible exact LeO.none _)
      | (with_reducible refine LeO.ite ?_ ?_)
      | (with_reducible refine LeO.bind ?_ (fun _ => ?_))
      | exact ih0 _ _ _ _
      | exact ih1 _ _ _ _ _ _ _
      | exact spec_ConicPoint.mono _ _ _
      | exact spec_ZeroIs.mono _ _ _
      | exact spec_l4Value.mono _ _ _
      | exact spec_l4Vector.mono _ _ _ _
      | exact spec_l5Pair.mono _ _ _ _
      | exact spec_l5Plain.mono _ _
      | exact spec_l6kMultiple.mono _ _ _
      | exact LeO.none _
      | refine LeO.ite ?_ ?_
      | refine LeO.bind ?_ (fun _ => ?_))
theorem spec_ConicOther.mono : ∀ a0 a1 a2 k, LeO (spec_ConicOther.f k a0 a1 a2) (spec_ConicOther.f (k + 1) a0 a1 a2) := by
  intro a0 a1 a2 k
  obtain ⟨ih0, ih1⟩ := spec_ConicOther.mono_l k
  unfold spec_ConicOther.f
  repeat' first
      | (with_reducible exact ih0 _ _ _ _)
      | (with_reducible exact ih1 _ _ _ _ _ _ _)
      | (with_reducible exact spec_ConicPoint.mono _ _ _)
      | (with_reducible exact spec_ZeroIs.mono _ _ _)
      | (with_reducible exact spec_l4Value.mono _ _ _)
      | (with_reducible exact spec_l4Vector.mono _ _ _ _)
      | (with_reducible exact spec_l5Pair.mono _ _ _ _)
      | (with_reducible exact spec_l5Plain.mono _ _)
      | (with_reducible exact spec_l6kMultiple.mono _ _ _)
      | (with_reducible exact LeO.refl _)
      | (with_reducible exact LeO.none _)
      | (with_reducible refine LeO.ite ?_ ?_)
      | (with_reducible refine LeO.bind ?_ (fun _ => ?_))
      | exact ih0 _ _ _ _
      | exact ih1 _ _ _ _ _ _ _
      | exact spec_ConicPoint.mono _ _ _
      | exact spec_ZeroIs.mono _ _ _
      | exact spec_l4Value.mono _ _ _
      | exact spec_l4Vector.mono _ _ _ _
      | exact spec_l5Pair.mono _ _ _ _
      | exact spec_l5Plain.mono _ _
      | exact spec_l6kMultiple.mono _ _ _
      | exact LeO.none _
      | refine LeO.ite ?_ ?_
      | refine LeO.bind ?_ (fun _ => ?_)
def spec_ConicOther.T9 : Bool × List (List Nat × List Nat) := (true, [([], []), ([], []), ([], []), ([], []), ([2, 3], [2, 3]), ([4], [4]), ([1, 5], [1, 5]), ([], []), ([7], [7]), ([], []), ([], []), ([9, 10], [9, 10]), ([11], [11]), ([8, 12], [8, 12]), ([6, 13], [6, 13]), ([14], [14]), ([0, 15], [0, 15]), ([16, 16, 0, 1, 2, 3, 4, 5, 6, 7, 8, 9, 10, 11, 12, 13, 14, 15, 16], [0, 16])])
def spec_ConicOther.B9 : List Nat := [0, 0, 0, 0, 12, 28, 62, 0, 128, 0, 0, 1536, 3584, 8064, 16382, 32766, 65535, 131071]
theorem spec_ConicOther.tab9 : rtab .any (opsOf Try.f18 9) = spec_ConicOther.T9 := by kernel_rfl
theorem spec_ConicOther.bits9 : waitsOk spec_ConicOther.T9.2 spec_ConicOther.B9 = true := by kernel_rfl
set_option maxHeartbeats 8000000 in
set_option maxRecDepth 100000 in
theorem spec_ConicOther.calls (k : Nat) (A0 : Option Addr) (c0 : Nat) (l0 : List Int) (A1 : Option Addr) (c1 : Nat) (l1 : List Int) (A2 : Option Addr) (c2 : Nat) (l2 : List Int) (r1 : List Int) (r2 : Bool) (w : World) (hr0 : Kd.C (Kd.int .i64) w A0 l0.length l0) (hc0 : l0.length ≤ c0) (hr1 : Kd.C (Kd.int .i64) w A1 l1.length l1) (hc1 : l1.length ≤ c1) (hr2 : Kd.C (Kd.int .i64) w A2 l2.length l2) (hc2 : l2.length ≤ c2) (h : spec_ConicOther.f k l0 l1 l2 = some (r1, r2)) :
    Calls Try.prog 18 #[.slice A0 l0.length c0, .slice A1 l1.length c1, .slice A2 l2.length c2] w fun e w' => ∃ v0_ : Value, e = .returned (.tuple #[v0_, .bool r2]) ∧ Kd.R (Kd.int .i64) 3 w' w.heap.size (fun _ => True) v0_ r1 ∧ Below w.heap.size w w' := by
  have HR0 := Aside0.mk hr0; have HC0 := Aside0.mk hc0; clear hr0 hc0; have HR1 := Aside0.mk hr1; have HC1 := Aside0.mk hc1; clear hr1 hc1; have HR2 := Aside0.mk hr2; have HC2 := Aside0.mk hc2; clear hr2 hc2; have HB := Aside0.mk (Below.refl w.heap.size w); unfold spec_ConicOther.f at h; have H := h; clear h; have HC4 := Aside0.mk H; clear H; go_enter Try.func18, Try.ntmps18
  go_upto_region 1 with (fail)
  go_cut [26] (fun v26 wc => ∃ (kq : Nat) (x26_3 : Bool), v26 = .bool x26_3 ∧ Aside0 (spec_ConicOther.j0 kq l0 l1 l2 x26_3 = some (r1, r2)) ∧ Aside0 (kq ≤ k) ∧ Aside0 (Below w.heap.size w wc))
  case first =>
    have H := HC4.out; clear HC4; obtain ⟨t514, A5, H⟩ := bnd H
    by_cases c6 : t514 = true
    · subst c6
      replace H := ifT H; obtain ⟨t515, A7, H⟩ := bnd H
      by_cases c8 : t515 = true
      · subst c8
        replace H := ifT H; obtain ⟨t516, A9, H⟩ := bnd H; have H' := Aside0.mk H; clear H
        go_wp2_with (first | ((with_reducible refine gate_callee (f := 10) rfl ?_); refine goesK (some 14) Try.func10 #[.slice A0 l0.length c0, .slice A1 l1.length c1] ?_; (with_reducible refine (spec_ConicPoint.calls k _ _ l0 _ _ l1 true _ ?side1 ?side2 ?side3 ?side4 A5.out).mono ?_); (case side1 => exact U (Kd.C_below HR0.out HB.out)); (case side2 => exact HC0.out); (case side3 => exact U (Kd.C_below HR1.out HB.out)); (case side4 => exact HC1.out); rintro e w10 ⟨rfl, hb⟩; refine ⟨_, rfl, ?_⟩; replace HB := BS hb; (try clear hb)) | (go_at_call 44; (with_reducible refine (spec_l4Vector.calls k _ _ l0 _ _ l2 20 true _ ?side1 ?side2 ?side3 ?side4 A7.out).mono ?_); (case side1 => exact U (Kd.C_below HR0.out HB.out)); (case side2 => exact HC0.out); (case side3 => exact U (Kd.C_below HR2.out HB.out)); (case side4 => exact HC2.out); rintro e w' ⟨rfl, ⟨nd, rfl⟩⟩) | (go_at_call 45; (with_reducible refine (spec_l6kMultiple.calls k _ _ l1 _ _ l2 t516 _ ?side1 ?side2 ?side3 ?side4 A9.out).mono ?_); (case side1 => exact U (Kd.C_below HR1.out BU)); (case side2 => exact HC1.out); (case side3 => exact U (Kd.C_below HR2.out BU)); (case side4 => exact HC2.out); rintro e w' ⟨rfl, ⟨nd, rfl⟩⟩))
        go_meet
        case rel => exact ⟨_, (t516), sR, H', ⟨oR⟩, ⟨BU⟩⟩
      replace c8 := Bool.eq_false_iff.mpr c8; subst c8; replace H := ifF H; have H' := Aside0.mk H; clear H
      go_wp2_with (first | ((with_reducible refine gate_callee (f := 10) rfl ?_); refine goesK (some 14) Try.func10 #[.slice A0 l0.length c0, .slice A1 l1.length c1] ?_; (with_reducible refine (spec_ConicPoint.calls k _ _ l0 _ _ l1 true _ ?side1 ?side2 ?side3 ?side4 A5.out).mono ?_); (case side1 => exact U (Kd.C_below HR0.out HB.out)); (case side2 => exact HC0.out); (case side3 => exact U (Kd.C_below HR1.out HB.out)); (case side4 => exact HC1.out); rintro e w11 ⟨rfl, hb⟩; refine ⟨_, rfl, ?_⟩; replace HB := BS hb; (try clear hb)) | (go_at_call 44; (with_reducible refine (spec_l4Vector.calls k _ _ l0 _ _ l2 20 false _ ?side1 ?side2 ?side3 ?side4 A7.out).mono ?_); (case side1 => exact U (Kd.C_below HR0.out HB.out)); (case side2 => exact HC0.out); (case side3 => exact U (Kd.C_below HR2.out HB.out)); (case side4 => exact HC2.out); rintro e w' ⟨rfl, ⟨nd, rfl⟩⟩))
      go_meet
      case rel => exact ⟨_, (true), sR, H', ⟨oR⟩, ⟨BU⟩⟩
    replace c6 := Bool.eq_false_iff.mpr c6; subst c6; replace H := ifF H; have H' := Aside0.mk H; clear H
    go_wp2_with (first | ((with_reducible refine gate_callee (f := 10) rfl ?_); refine goesK (some 14) Try.func10 #[.slice A0 l0.length c0, .slice A1 l1.length c1] ?_; (with_reducible refine (spec_ConicPoint.calls k _ _ l0 _ _ l1 false _ ?side1 ?side2 ?side3 ?side4 A5.out).mono ?_); (case side1 => exact U (Kd.C_below HR0.out HB.out)); (case side2 => exact HC0.out); (case side3 => exact U (Kd.C_below HR1.out HB.out)); (case side4 => exact HC1.out); rintro e w12 ⟨rfl, hb⟩; refine ⟨_, rfl, ?_⟩; replace HB := BS hb; (try clear hb)))
    go_meet
    case rel => exact ⟨_, (true), sR, H', ⟨oR⟩, ⟨BU⟩⟩
  case rest =>
    clear HC4; obtain ⟨kq, x26_3, rfl, HA, HJ3, HB⟩ := hcut; cases kq with
    | zero => exact absurd HA.out (by simp [spec_ConicOther.j0])
    | succ kj3 =>
      have H := HA.out; clear HA; simp only [spec_ConicOther.j0] at H
      by_cases c13 : x26_3 = true
      · subst c13
        replace H := ifT H; obtain ⟨y517, hy517⟩ : ∃ y_ : List Int, y_ = (([] : List Int)) := ⟨_, rfl⟩; replace H : (some (y517, false)) = some (r1, r2) := rH hy517 H; have Ny517 := Aside0.mk hy517; clear hy517; simp only [Option.some.injEq, Prod.mk.injEq] at H; obtain ⟨rfl, rfl⟩ := H
        go_wp2_with (first | ((with_reducible refine gate_dst (N := 27) rfl ?_); refine Kd.R_lit (Kd.int .i64) _ 3 ?hg (N := 27) ?hd (xs := ([] : List Int)) (inner := []) (ok := fun _ => True) (okp := fun _ => True) ?hr ?hp (fun _ hk => hk) trivial (Below.refl _ _) (Nat.le_refl _) (by simp) ?_; (case hd => rfl); (case hg => rfl); (case hr => first | (go_simp; done) | (go_simp; rfl)); (case hp => exact (Reps.none _ _)); intro v518 w14 ho15 hb hg_ hnew_; clear hg_ hnew_; (first | rw [← Ny517.out] at ho15 | (simp only [Int.reduceToNat] at ho15; rw [← Ny517.out] at ho15)); have HO519 := Aside0.mk (Kd.R_lower ho15 (below_size BU)); replace HB := BS hb; clear hb ho15))
        go_ret2
        exact ⟨_, eR, U HO519.out, BU⟩
      replace c13 := Bool.eq_false_iff.mpr c13; subst c13; replace H := ifF H; obtain ⟨t520, A16, H⟩ := bnd H; obtain ⟨t521, A17, H⟩ := bnd H; obtain ⟨y522, hy522⟩ : ∃ y_ : List Int, y_ = (([] : List Int)) := ⟨_, rfl⟩; replace H : (spec_ConicOther.l0 kj3 l0 l1 l2 t520 t521 y522 0) = some (r1, r2) := rH hy522 H; have Ny522 := Aside0.mk hy522; clear hy522; have H' := Aside0.mk H; clear H
      go_wp2_with (first | ((with_reducible refine gate_callee (f := 46) rfl ?_); refine goesK (some 30) Try.func46 #[.slice A0 l0.length c0, .slice A2 l2.length c2] ?_; (with_reducible refine (spec_l4Value.calls kj3 _ _ l0 _ _ l2 t520 _ ?side1 ?side2 ?side3 ?side4 A16.out).mono ?_); (case side1 => exact U (Kd.C_below HR0.out HB.out)); (case side2 => exact HC0.out); (case side3 => exact U (Kd.C_below HR2.out HB.out)); (case side4 => exact HC2.out); rintro e w' ⟨rfl, ⟨nd, rfl⟩⟩; refine ⟨_, rfl, ?_⟩) | ((with_reducible refine gate_callee (f := 47) rfl ?_); refine goesK (some 34) Try.func47 #[.slice A0 l0.length c0, .slice A1 l1.length c1, .slice A2 l2.length c2] ?_; (with_reducible refine (spec_l5Pair.calls kj3 _ _ l0 _ _ l1 _ _ l2 t521 _ ?side1 ?side2 ?side3 ?side4 ?side5 ?side6 A17.out).mono ?_); (case side1 => exact U (Kd.C_below HR0.out BU)); (case side2 => exact HC0.out); (case side3 => exact U (Kd.C_below HR1.out BU)); (case side4 => exact HC1.out); (case side5 => exact U (Kd.C_below HR2.out BU)); (case side6 => exact HC2.out); rintro e w' ⟨rfl, ⟨nd, rfl⟩⟩; refine ⟨_, rfl, ?_⟩) | ((with_reducible refine gate_dst (N := 35) rfl ?_); refine Kd.R_lit (Kd.int .i64) _ 3 ?hg (N := 35) ?hd (xs := ([] : List Int)) (inner := []) (ok := fun _ => True) (okp := fun _ => True) ?hr ?hp (fun _ hk => hk) trivial (Below.refl _ _) (Nat.le_refl _) (by simp) ?_; (case hd => rfl); (case hg => rfl); (case hr => first | (go_simp; done) | (go_simp; rfl)); (case hp => exact (Reps.none _ _)); intro v523 w18 ho19 hb hg_ hnew_; clear hg_ hnew_; (first | rw [← Ny522.out] at ho19 | (simp only [Int.reduceToNat] at ho19; rw [← Ny522.out] at ho19)); have HO524 := Aside0.mk (Kd.R_lower ho19 (below_size BU)); replace HB := BS hb; clear hb ho19))
      go_loopg [10, 11] kj3 (fun kq v10 v11 w' => ∃ (x10_2 : List Int) (x11_2 : Int), v11 = .int .i64 x11_2 ∧ Aside0 (spec_ConicOther.l0 kq l0 l1 l2 t520 t521 x10_2 x11_2 = some (r1, r2)) ∧ Aside0 (kq ≤ kj3) ∧ Aside0 (Kd.R (Kd.int .i64) 3 w' w.heap.size (fun _ => True) v10 x10_2) ∧ Aside0 (Below w.heap.size w w'))
      case atStart => exact ⟨(y522), (0), sR, H', ⟨Nat.le_refl _⟩, ⟨U HO524.out⟩, ⟨BU⟩⟩
      case round =>
        clear H'; (try clear c1); (try clear c2); (try clear c13); obtain ⟨x10_2, x11_2, rfl, HA, HK2, HO_10, HB⟩ := hrel; cases gk with
        | zero => exact absurd HA.out (by simp [spec_ConicOther.l0])
        | succ k2 =>
          have H := HA.out; clear HA; simp only [spec_ConicOther.l0] at H
          by_cases c20 : x11_2 < 3
          · rw [if_pos c20] at H
            have c20b0 : decide (x11_2 < 3) = true := decide_eq_true c20; clear c20; obtain ⟨c21, H⟩ := ifN H; have c21b0 : decide (0 ≤ x11_2) = true := decide_eq_true c21; clear c21; obtain ⟨c22, H⟩ := ifN H; have c22b0 : decide (x11_2 < (l1.length : Int)) = true := decide_eq_true c22; clear c22; obtain ⟨c23, H⟩ := ifN H; have c23b0 : decide (x11_2 < (l2.length : Int)) = true := decide_eq_true c23; clear c23; obtain ⟨c24, H⟩ := ifN H; have LMc24 := Aside0.mk c24; clear c24; obtain ⟨y527, hy527⟩ : ∃ y_ : List Int, y_ = (x10_2 ++ [wrap64 ((wrap64 (t520 * (rd l1 x11_2))) - (wrap64 ((wrap64 (2 * t521)) * (rd l2 x11_2))))]) := ⟨_, rfl⟩; replace H : (spec_ConicOther.l0 k2 l0 l1 l2 t520 t521 y527 (wrap64 (x11_2 + 1))) = some (r1, r2) := rH hy527 H; have Ny527 := Aside0.mk hy527; clear hy527; have H' := Aside0.mk H; clear H
            try go_wp2
            replace HO_10 := Aside0.mk (Kd.R_drew HO_10.out); replace HB := Aside0.mk (below_drew1 HB.out); have p525 : 0 ≤ (x11_2 : Int) := oD; have q525 : x11_2 < (l1.length : Int) := oD; obtain ⟨ad525, e525, hx525_0⟩ := Kd.at_int HR1.out x11_2 p525 q525; have hw525_0 := hx525_0; cases e525; replace hx525_0 := (HB.out.cell (World.block_lt_of_cell? w _ hx525_0)).trans hx525_0; replace p525 := eq_true p525; replace q525 := eq_true q525; have p526 : 0 ≤ (x11_2 : Int) := oD; have q526 : x11_2 < (l2.length : Int) := oD; obtain ⟨ad526, e526, hx526_0⟩ := Kd.at_int HR2.out x11_2 p526 q526; have hw526_0 := hx526_0; cases e526; replace hx526_0 := (HB.out.cell (World.block_lt_of_cell? w _ hx526_0)).trans hx526_0; replace p526 := eq_true p526; replace q526 := eq_true q526
            refine start_ (n := 18) (S := fun w' => w'.cell? (ad525.add (x11_2).toNat) = some (.int .i64 (rd l1 x11_2)) ∧ w'.cell? (ad526.add (x11_2).toNat) = some (.int .i64 (rd l2 x11_2))) (ds := []) #[false, false, false, false, false, false, false, false, false, false, false, false, false, false, false, false, false, false] (by kernel_rfl) rfl rfl ⟨((HB.out.cell (World.block_lt_of_cell? w _ hw525_0)).trans hw525_0), ((HB.out.cell (World.block_lt_of_cell? w _ hw526_0)).trans hw526_0)⟩ (fun hHeld => ?_); refine with_tabW spec_ConicOther.tab9 spec_ConicOther.bits9 (fun HT_ HW_ => ?_)
            generalize wr.drew = w25 at HO_10 HB hx525_0 hx526_0 hHeld ⊢
            refine pure_ (i := 0) (N := some 40) (v := ?_) (a' := ?_) #[true, false, false, false, false, false, false, false, false, false, false, false, false, false, false, false, false, false] rfl rfl (any_of HT_.out (by kernel_rfl)) (fun _ _ _ h => h) (Or.inl ⟨by rfl, ?_⟩) ?_ ?_
            rotate_left
            · intro w'
              go_simp
              with_reducible rfl
            rotate_left
            · simp only [Act.put, List.setIfInBounds_toArray, List.set_cons_zero, List.set_cons_succ, i64_w, i32_w]
              rfl
            refine pure_ (i := 1) (N := some 41) (v := ?_) (a' := ?_) #[true, true, false, false, false, false, false, false, false, false, false, false, false, false, false, false, false, false] rfl rfl (any_of HT_.out (by kernel_rfl)) (fun _ _ _ h => h) (Or.inl ⟨by rfl, ?_⟩) ?_ ?_
            rotate_left
            · intro w'
              go_simp
              with_reducible rfl
            rotate_left
            · simp only [Act.put, List.setIfInBounds_toArray, List.set_cons_zero, List.set_cons_succ, i64_w, i32_w]
              rfl
            refine pure_ (i := 2) (N := some 42) (v := ?_) (a' := ?_) #[true, true, true, false, false, false, false, false, false, false, false, false, false, false, false, false, false, false] rfl rfl (any_of HT_.out (by kernel_rfl)) (fun _ _ _ h => h) (Or.inl ⟨by rfl, ?_⟩) ?_ ?_
            rotate_left
            · intro w'
              go_simp
              with_reducible rfl
            rotate_left
            · simp only [Act.put, List.setIfInBounds_toArray, List.set_cons_zero, List.set_cons_succ, i64_w, i32_w]
              rfl
            refine pure_ (i := 3) (N := some 43) (v := ?_) (a' := ?_) #[true, true, true, true, false, false, false, false, false, false, false, false, false, false, false, false, false, false] rfl rfl (any_of HT_.out (by kernel_rfl)) (fun _ _ _ h => h) (Or.inl ⟨by rfl, ?_⟩) ?_ ?_
            rotate_left
            · intro w'
              go_simp
              with_reducible rfl
            rotate_left
            · simp only [Act.put, List.setIfInBounds_toArray, List.set_cons_zero, List.set_cons_succ, i64_w, i32_w]
              rfl
            refine pure_ (i := 4) (N := some 44) (v := ?_) (a' := ?_) #[true, true, true, true, true, false, false, false, false, false, false, false, false, false, false, false, false, false] rfl rfl (any_of HT_.out (by kernel_rfl)) (fun _ _ _ h => h) (Or.inl ⟨by rfl, ?_⟩) ?_ ?_
            rotate_left
            · intro w'
              go_simp
              with_reducible rfl
            rotate_left
            · simp only [Act.put, List.setIfInBounds_toArray, List.set_cons_zero, List.set_cons_succ, i64_w, i32_w]
              rfl
            refine pure_ (i := 7) (N := some 47) (v := ?_) (a' := ?_) #[true, true, true, true, true, false, false, true, false, false, false, false, false, false, false, false, false, false] rfl rfl (any_of HT_.out (by kernel_rfl)) (fun _ _ _ h => h) (Or.inl ⟨by rfl, ?_⟩) ?_ ?_
            rotate_left
            · intro w'
              go_simp
              with_reducible rfl
            rotate_left
            · simp only [Act.put, List.setIfInBounds_toArray, List.set_cons_zero, List.set_cons_succ, i64_w, i32_w]
              rfl
            refine pure_ (i := 8) (N := some 48) (v := ?_) (a' := ?_) #[true, true, true, true, true, false, false, true, true, false, false, false, false, false, false, false, false, false] rfl rfl (any_of HT_.out (by kernel_rfl)) (fun _ _ _ h => h) (Or.inl ⟨by rfl, ?_⟩) ?_ ?_
            rotate_left
            · intro w'
              go_simp
              with_reducible rfl
            rotate_left
            · simp only [Act.put, List.setIfInBounds_toArray, List.set_cons_zero, List.set_cons_succ, i64_w, i32_w]
              rfl
            refine pure_ (i := 9) (N := some 49) (v := ?_) (a' := ?_) #[true, true, true, true, true, false, false, true, true, true, false, false, false, false, false, false, false, false] rfl rfl (any_of HT_.out (by kernel_rfl)) (fun _ _ _ h => h) (Or.inl ⟨by rfl, ?_⟩) ?_ ?_
            rotate_left
            · intro w'
              go_simp
              with_reducible rfl
            rotate_left
            · simp only [Act.put, List.setIfInBounds_toArray, List.set_cons_zero, List.set_cons_succ, i64_w, i32_w]
              rfl
            refine pure_ (i := 10) (N := some 50) (v := ?_) (a' := ?_) #[true, true, true, true, true, false, false, true, true, true, true, false, false, false, false, false, false, false] rfl rfl (any_of HT_.out (by kernel_rfl)) (fun _ _ _ h => h) (Or.inl ⟨by rfl, ?_⟩) ?_ ?_
            rotate_left
            · intro w'
              go_simp
              with_reducible rfl
            rotate_left
            · simp only [Act.put, List.setIfInBounds_toArray, List.set_cons_zero, List.set_cons_succ, i64_w, i32_w]
              rfl
            refine pure_ (i := 11) (N := some 51) (v := ?_) (a' := ?_) #[true, true, true, true, true, false, false, true, true, true, true, true, false, false, false, false, false, false] rfl rfl (any_of HT_.out (by kernel_rfl)) (fun _ _ _ h => h) (Or.inl ⟨by rfl, ?_⟩) ?_ ?_
            rotate_left
            · intro w'
              go_simp
              with_reducible rfl
            rotate_left
            · simp only [Act.put, List.setIfInBounds_toArray, List.set_cons_zero, List.set_cons_succ, i64_w, i32_w]
              rfl
            refine take_ (i := 5) (N := some 45) (v := ?_) (a' := ?_) #[true, true, true, true, true, true, false, true, true, true, true, true, false, false, false, false, false, false] rfl rfl (take_ofW HT_.out HW_.out (by kernel_rfl)) (fun _ _ _ h => h) (Or.inl ⟨by rfl, ?_⟩) hHeld ?_ ?_
            rotate_left
            · rintro w' ⟨s0, s1⟩
              go_simp
              with_reducible rfl
            rotate_left
            · simp only [Act.put, List.setIfInBounds_toArray, List.set_cons_zero, List.set_cons_succ, i64_w, i32_w]
              rfl
            refine pure_ (i := 6) (N := some 46) (v := ?_) (a' := ?_) #[true, true, true, true, true, true, true, true, true, true, true, true, false, false, false, false, false, false] rfl rfl (any_of HT_.out (by kernel_rfl)) (fun _ _ _ h => h) (Or.inl ⟨by rfl, ?_⟩) ?_ ?_
            rotate_left
            · intro w'
              go_simp
              with_reducible rfl
            rotate_left
            · simp only [Act.put, List.setIfInBounds_toArray, List.set_cons_zero, List.set_cons_succ, i64_w, i32_w]
              rfl
            refine take_ (i := 12) (N := some 52) (v := ?_) (a' := ?_) #[true, true, true, true, true, true, true, true, true, true, true, true, true, false, false, false, false, false] rfl rfl (take_ofW HT_.out HW_.out (by kernel_rfl)) (fun _ _ _ h => h) (Or.inl ⟨by rfl, ?_⟩) hHeld ?_ ?_
            rotate_left
            · rintro w' ⟨s0, s1⟩
              go_simp
              with_reducible rfl
            rotate_left
            · simp only [Act.put, List.setIfInBounds_toArray, List.set_cons_zero, List.set_cons_succ, i64_w, i32_w]
              rfl
            refine pure_ (i := 13) (N := some 53) (v := ?_) (a' := ?_) #[true, true, true, true, true, true, true, true, true, true, true, true, true, true, false, false, false, false] rfl rfl (any_of HT_.out (by kernel_rfl)) (fun _ _ _ h => h) (Or.inl ⟨by rfl, ?_⟩) ?_ ?_
            rotate_left
            · intro w'
              go_simp
              with_reducible rfl
            rotate_left
            · simp only [Act.put, List.setIfInBounds_toArray, List.set_cons_zero, List.set_cons_succ, i64_w, i32_w]
              rfl
            refine pure_ (i := 14) (N := some 54) (v := ?_) (a' := ?_) #[true, true, true, true, true, true, true, true, true, true, true, true, true, true, true, false, false, false] rfl rfl (any_of HT_.out (by kernel_rfl)) (fun _ _ _ h => h) (Or.inl ⟨by rfl, ?_⟩) ?_ ?_
            rotate_left
            · intro w'
              go_simp
              with_reducible rfl
            rotate_left
            · simp only [Act.put, List.setIfInBounds_toArray, List.set_cons_zero, List.set_cons_succ, i64_w, i32_w]
              rfl
            refine one_ (i := 15) (N := some 55) #[true, true, true, true, true, true, true, true, true, true, true, true, true, true, true, true, false, false] rfl rfl (one_of HT_.out (by kernel_rfl)) (by decide) (fun K hK => ?_)
            refine value_ (w1 := ?_) (v := ?_) (by rfl) rfl ?_ ?_
            rotate_left 2
            · go_simp
              constructor
              · rfl
              rfl
            refine hK.out _ _ ⟨(World.cell?_alloc_lt _ _ _ (World.block_lt_of_cell? _ _ (((HB.out.cell (World.block_lt_of_cell? w _ hw525_0)).trans hw525_0)))).trans (((HB.out.cell (World.block_lt_of_cell? w _ hw525_0)).trans hw525_0)), (World.cell?_alloc_lt _ _ _ (World.block_lt_of_cell? _ _ (((HB.out.cell (World.block_lt_of_cell? w _ hw526_0)).trans hw526_0)))).trans (((HB.out.cell (World.block_lt_of_cell? w _ hw526_0)).trans hw526_0))⟩ (fun hHeld => ?_)
            clear hK K
            refine norm_ (a' := ?_) ?_ ?_
            rotate_left
            · show Act.put _ (some 55) _ = _
              simp only [Act.put, List.setIfInBounds_toArray, List.set_cons_zero, List.set_cons_succ, i64_w, i32_w]
              rfl
            refine one_ (i := 16) (N := some 56) #[true, true, true, true, true, true, true, true, true, true, true, true, true, true, true, true, true, false] rfl rfl (one_of HT_.out (by kernel_rfl)) (by decide) (fun K hK => ?_)
            refine Kd.R_append_step (Kd.int .i64) (w0 := w) w.heap.size (by rfl) (.tmp 40) (.tmp 55) 23 3 (.int .i64 0) 8 rfl Try.underlying23 info3 rfl (by decide) (by omega) u10 x10_2 (wrap64 ((wrap64 (t520 * (rd l1 x11_2))) - (wrap64 ((wrap64 (2 * t521)) * (rd l2 x11_2))))) [.int .i64 (wrap64 ((wrap64 (t520 * (rd l1 x11_2))) - (wrap64 ((wrap64 (2 * t521)) * (rd l2 x11_2)))))] (fun _ => True) (fun _ => False) rfl rfl ?aP (fun _ hk => hk.elim) ?aF ?aO ?aB ?aS ?aL ?_
            (case aP => exact rfl)
            (case aB => exact BU)
            (case aF => exact (fun _ _ => trivial))
            (case aO => exact (U HO_10.out))
            (case aS => exact (below_size BU))
            (case aL => have := LMc24.out; omega)
            intro v528 w26 ho hb hg hat; rw [← Ny527.out] at ho; have n0_ := Aside0.mk (hb); have n1_ := Aside0.mk (ho); (try clear HB); clear HO_10; have HB := n0_; have HO529 := n1_; clear n0_ n1_ ho hb hg hat
            refine hK.out _ _ ⟨((HB.out.cell (World.block_lt_of_cell? w _ hw525_0)).trans hw525_0), ((HB.out.cell (World.block_lt_of_cell? w _ hw526_0)).trans hw526_0)⟩ (fun hHeld => ?_)
            clear hK K
            refine norm_ (a' := ?_) ?_ ?_
            rotate_left
            · show Act.put _ (some 56) _ = _
              simp only [Act.put, List.setIfInBounds_toArray, List.set_cons_zero, List.set_cons_succ, i64_w, i32_w]
              rfl
            refine pure_ (i := 17) (N := some 10) (v := ?_) (a' := ?_) #[true, true, true, true, true, true, true, true, true, true, true, true, true, true, true, true, true, true] rfl rfl (any_of HT_.out (by kernel_rfl)) (fun _ _ _ h => h) (Or.inl ⟨by rfl, ?_⟩) ?_ ?_
            rotate_left
            · intro w'
              go_simp
              with_reducible rfl
            rotate_left
            · simp only [Act.put, List.setIfInBounds_toArray, List.set_cons_zero, List.set_cons_succ, i64_w, i32_w]
              rfl
            refine done_ (done_of HT_.out (by kernel_rfl)) ?_
            try go_wp2
            go_roundg k2
            case measure => have := HJ3.out; have := HK2.out; omega
            case rel => exact ⟨(y527), (wrap64 (x11_2 + 1)), sR, H', ⟨by have := HJ3.out; have := HK2.out; omega⟩, ⟨U HO529.out⟩, ⟨BU⟩⟩
          rw [if_neg c20] at H; have c20b0 : decide (x11_2 < 3) = false := decide_eq_false c20; clear c20; obtain ⟨t530, A27, H⟩ := bnd H; obtain ⟨t533, A28, H⟩ := bnd H
          by_cases c29 : t533 = true
          · subst c29
            replace H := ifT H; simp only [Option.some.injEq, Prod.mk.injEq] at H; obtain ⟨rfl, rfl⟩ := H; obtain ⟨Ao30, co30, eo30⟩ := Kd.R_slice HO_10.out; subst eo30
            go_wp2_with (first | ((with_reducible refine gate_callee (f := 48) rfl ?_); refine goesK (some 58) Try.func48 #[.slice Ao30 x10_2.length co30] ?_; (with_reducible refine (spec_l5Plain.calls k2 _ _ x10_2 t530 _ ?side1 ?side2 A27.out).mono ?_); (case side1 => exact U ((Kd.R_reads' HO_10.out).2.2)); (case side2 => exact (Kd.R_reads' HO_10.out).2.1); rintro e w31 ⟨v531, rfl, ho0, hb⟩; refine ⟨_, rfl, ?_⟩; have HO532 := Aside0.mk (Kd.R_lower (Kd.R_new' ho0 (Kd.R_lt (U HO_10.out))) (below_size BU)); replace HO_10 := Aside0.mk (Kd.R_elder' (U HO_10.out) (Kd.R_base ho0) hb); replace HB := BS hb; (try clear hb); (try clear ho0); obtain ⟨Ao32, co32, eo32⟩ := Kd.R_slice HO532.out; subst eo32) | ((with_reducible refine gate_callee (f := 34) rfl ?_); refine goesK (some 61) Try.func34 #[.slice A0 l0.length c0, .slice Ao32 t530.length co32] ?_; (with_reducible refine (spec_ZeroIs.calls k2 _ _ l0 _ _ t530 true _ ?side1 ?side2 ?side3 ?side4 A28.out).mono ?_); (case side1 => exact U (Kd.C_below HR0.out HB.out)); (case side2 => exact HC0.out); (case side3 => exact U ((Kd.R_reads' HO532.out).2.2)); (case side4 => exact (Kd.R_reads' HO532.out).2.1); rintro e w' ⟨rfl, ⟨nd, rfl⟩⟩; refine ⟨_, rfl, ?_⟩))
            go_ret2
            exact ⟨_, eR, Kd.RM HO532.out (fun _ hk => trivial), BU⟩
          replace c29 := Bool.eq_false_iff.mpr c29; subst c29; replace H := ifF H; obtain ⟨y534, hy534⟩ : ∃ y_ : List Int, y_ = (([] : List Int)) := ⟨_, rfl⟩; replace H : (some (y534, false)) = some (r1, r2) := rH hy534 H; have Ny534 := Aside0.mk hy534; clear hy534; simp only [Option.some.injEq, Prod.mk.injEq] at H; obtain ⟨rfl, rfl⟩ := H; obtain ⟨Ao33, co33, eo33⟩ := Kd.R_slice HO_10.out; subst eo33
          go_wp2_with (first | ((with_reducible refine gate_callee (f := 48) rfl ?_); refine goesK (some 58) Try.func48 #[.slice Ao33 x10_2.length co33] ?_; (with_reducible refine (spec_l5Plain.calls k2 _ _ x10_2 t530 _ ?side1 ?side2 A27.out).mono ?_); (case side1 => exact U ((Kd.R_reads' HO_10.out).2.2)); (case side2 => exact (Kd.R_reads' HO_10.out).2.1); rintro e w34 ⟨v531, rfl, ho0, hb⟩; refine ⟨_, rfl, ?_⟩; have HO532 := Aside0.mk (Kd.R_lower (Kd.R_new' ho0 (Kd.R_lt (U HO_10.out))) (below_size BU)); replace HO_10 := Aside0.mk (Kd.R_elder' (U HO_10.out) (Kd.R_base ho0) hb); replace HB := BS hb; (try clear hb); (try clear ho0); obtain ⟨Ao35, co35, eo35⟩ := Kd.R_slice HO532.out; subst eo35) | ((with_reducible refine gate_callee (f := 34) rfl ?_); refine goesK (some 61) Try.func34 #[.slice A0 l0.length c0, .slice Ao35 t530.length co35] ?_; (with_reducible refine (spec_ZeroIs.calls k2 _ _ l0 _ _ t530 false _ ?side1 ?side2 ?side3 ?side4 A28.out).mono ?_); (case side1 => exact U (Kd.C_below HR0.out HB.out)); (case side2 => exact HC0.out); (case side3 => exact U ((Kd.R_reads' HO532.out).2.2)); (case side4 => exact (Kd.R_reads' HO532.out).2.1); rintro e w' ⟨rfl, ⟨nd, rfl⟩⟩; refine ⟨_, rfl, ?_⟩) | ((with_reducible refine gate_dst (N := 63) rfl ?_); refine Kd.R_lit (Kd.int .i64) _ 3 ?hg (N := 63) ?hd (xs := ([] : List Int)) (inner := []) (ok := fun _ => True) (okp := fun _ => True) ?hr ?hp (fun _ hk => hk) trivial (Below.refl _ _) (Nat.le_refl _) (by simp) ?_; (case hd => rfl); (case hg => rfl); (case hr => first | (go_simp; done) | (go_simp; rfl)); (case hp => exact (Reps.none _ _)); intro v535 w36 ho37 hb hg_ hnew_; clear hg_ hnew_; (first | rw [← Ny534.out] at ho37 | (simp only [Int.reduceToNat] at ho37; rw [← Ny534.out] at ho37)); have HO536 := Aside0.mk (Kd.R_lower (Kd.R_new' (Kd.R_new' ho37 (Kd.R_lt (U HO_10.out))) (Kd.R_lt (U HO532.out))) (below_size BU)); replace HO_10 := Aside0.mk (Kd.R_elder' (U HO_10.out) (Kd.R_base ho37) hb); replace HO532 := Aside0.mk (Kd.R_elder' (U HO532.out) (Kd.R_base ho37) hb); replace HB := BS hb; clear hb ho37))
          go_ret2
          exact ⟨_, eR, Kd.RM HO536.out (fun _ hk => trivial), BU⟩

/-! ### spec_l6kAway: function 49 -/
def spec_l6kAway.f (a0 : Int) (a1 : Int) (a2 : Int) : Option (List Int) := if a0 = 0 then (some (([0, a1, a2] : List Int))) else (if a0 = 1 then (some (([a1, 0, a2] : List Int))) else (some (([a1, a2, 0] : List Int))))
set_option maxHeartbeats 8000000 in
set_option maxRecDepth 100000 in
theorem spec_l6kAway.calls (a0 : Int) (a1 : Int) (a2 : Int) (r : List Int) (w : World) (h : spec_l6kAway.f a0 a1 a2 = some r) :
    Calls Try.prog 49 #[.int .i64 a0, .int .i64 a1, .int .i64 a2] w fun e w' => ∃ v0_ : Value, e = .returned (v0_) ∧ Kd.R (Kd.int .i64) 3 w' w.heap.size (fun _ => True) v0_ r ∧ Below w.heap.size w w' := by
  have HB := Aside0.mk (Below.refl w.heap.size w); unfold spec_l6kAway.f at h; have H := h; clear h
  by_cases c4 : a0 = 0
  · rw [if_pos c4] at H
    have c4b0 : (a0 == 0) = true := beq_iff_eq.mpr c4; have c4b1 : (a0 != 0) = false := bne_eq_false_iff_eq.mpr c4; clear c4; obtain ⟨y537, hy537⟩ : ∃ y_ : List Int, y_ = (([0, a1, a2] : List Int)) := ⟨_, rfl⟩; replace H : (some y537) = some r := rH hy537 H; have Ny537 := Aside0.mk hy537; clear hy537; obtain rfl := Option.some.inj H; go_enter Try.func49, Try.ntmps49
    go_wp2_with (first | ((with_reducible refine gate_dst (N := 12) rfl ?_); refine Kd.R_lit (Kd.int .i64) _ 3 ?hg (N := 12) ?hd (xs := ([0, a1, a2] : List Int)) (inner := [.int .i64 0, .int .i64 a1, .int .i64 a2]) (ok := fun _ => True) (okp := fun _ => True) ?hr ?hp (fun _ hk => hk) trivial (Below.refl _ _) (Nat.le_refl _) (by simp) ?_; (case hd => rfl); (case hg => rfl); (case hr => first | (go_simp; done) | (go_simp; rfl)); (case hp => exact (Reps.one (show Kd.M (Kd.int .i64) _ _ _ 0 [.int .i64 0] from rfl) (Reps.one (show Kd.M (Kd.int .i64) _ _ _ a1 [.int .i64 a1] from rfl) (Reps.one (show Kd.M (Kd.int .i64) _ _ _ a2 [.int .i64 a2] from rfl) (Reps.none _ _))))); intro v538 w5 ho6 hb hg_ hnew_; clear hg_ hnew_; (first | rw [← Ny537.out] at ho6 | (simp only [Int.reduceToNat] at ho6; rw [← Ny537.out] at ho6)); have HO539 := Aside0.mk (Kd.R_lower ho6 (below_size BU)); replace HB := BS hb; clear hb ho6))
    go_ret
    exact ⟨_, eR, U HO539.out, BU⟩
  rw [if_neg c4] at H; have c4b0 : (a0 == 0) = false := beq_eq_false_iff_ne.mpr c4; have c4b1 : (a0 != 0) = true := bne_iff_ne.mpr c4
  by_cases c7 : a0 = 1
  · rw [if_pos c7] at H
    have c7b0 : (a0 == 1) = true := beq_iff_eq.mpr c7; have c7b1 : (a0 != 1) = false := bne_eq_false_iff_eq.mpr c7; clear c7; obtain ⟨y540, hy540⟩ : ∃ y_ : List Int, y_ = (([a1, 0, a2] : List Int)) := ⟨_, rfl⟩; replace H : (some y540) = some r := rH hy540 H; have Ny540 := Aside0.mk hy540; clear hy540; obtain rfl := Option.some.inj H; go_enter Try.func49, Try.ntmps49
    go_wp2_with (first | ((with_reducible refine gate_dst (N := 17) rfl ?_); refine Kd.R_lit (Kd.int .i64) _ 3 ?hg (N := 17) ?hd (xs := ([a1, 0, a2] : List Int)) (inner := [.int .i64 a1, .int .i64 0, .int .i64 a2]) (ok := fun _ => True) (okp := fun _ => True) ?hr ?hp (fun _ hk => hk) trivial (Below.refl _ _) (Nat.le_refl _) (by simp) ?_; (case hd => rfl); (case hg => rfl); (case hr => first | (go_simp; done) | (go_simp; rfl)); (case hp => exact (Reps.one (show Kd.M (Kd.int .i64) _ _ _ a1 [.int .i64 a1] from rfl) (Reps.one (show Kd.M (Kd.int .i64) _ _ _ 0 [.int .i64 0] from rfl) (Reps.one (show Kd.M (Kd.int .i64) _ _ _ a2 [.int .i64 a2] from rfl) (Reps.none _ _))))); intro v541 w8 ho9 hb hg_ hnew_; clear hg_ hnew_; (first | rw [← Ny540.out] at ho9 | (simp only [Int.reduceToNat] at ho9; rw [← Ny540.out] at ho9)); have HO542 := Aside0.mk (Kd.R_lower ho9 (below_size BU)); replace HB := BS hb; clear hb ho9))
    go_ret
    exact ⟨_, eR, U HO542.out, BU⟩
  rw [if_neg c7] at H; have c7b0 : (a0 == 1) = false := beq_eq_false_iff_ne.mpr c7; have c7b1 : (a0 != 1) = true := bne_iff_ne.mpr c7; obtain ⟨y543, hy543⟩ : ∃ y_ : List Int, y_ = (([a1, a2, 0] : List Int)) := ⟨_, rfl⟩; replace H : (some y543) = some r := rH hy543 H; have Ny543 := Aside0.mk hy543; clear hy543; obtain rfl := Option.some.inj H; go_enter Try.func49, Try.ntmps49
  go_wp2_with (first | ((with_reducible refine gate_dst (N := 20) rfl ?_); refine Kd.R_lit (Kd.int .i64) _ 3 ?hg (N := 20) ?hd (xs := ([a1, a2, 0] : List Int)) (inner := [.int .i64 a1, .int .i64 a2, .int .i64 0]) (ok := fun _ => True) (okp := fun _ => True) ?hr ?hp (fun _ hk => hk) trivial (Below.refl _ _) (Nat.le_refl _) (by simp) ?_; (case hd => rfl); (case hg => rfl); (case hr => first | (go_simp; done) | (go_simp; rfl)); (case hp => exact (Reps.one (show Kd.M (Kd.int .i64) _ _ _ a1 [.int .i64 a1] from rfl) (Reps.one (show Kd.M (Kd.int .i64) _ _ _ a2 [.int .i64 a2] from rfl) (Reps.one (show Kd.M (Kd.int .i64) _ _ _ 0 [.int .i64 0] from rfl) (Reps.none _ _))))); intro v544 w10 ho11 hb hg_ hnew_; clear hg_ hnew_; (first | rw [← Ny543.out] at ho11 | (simp only [Int.reduceToNat] at ho11; rw [← Ny543.out] at ho11)); have HO545 := Aside0.mk (Kd.R_lower ho11 (below_size BU)); replace HB := BS hb; clear hb ho11))
  go_ret
  exact ⟨_, eR, U HO545.out, BU⟩

/-! ### spec_l6kAxis: function 50 -/
def spec_l6kAxis.l0 : Nat → List Int → Int → Option (Int)
  | 0, _, _ => none
  | k + 1, x0, x3 => if 0 ≤ x3 then (if x3 < (x0.length : Int) then (if (rd x0 x3) = 0 then (spec_l6kAxis.l0 k x0 (wrap64 (x3 + 1))) else (some x3)) else (none)) else (none)
def spec_l6kAxis.f (k : Nat) (l0 : List Int) : Option (Int) := spec_l6kAxis.l0 k l0 0
theorem spec_l6kAxis.mono_l : ∀ k, (∀ y0 y1, LeO (spec_l6kAxis.l0 k y0 y1) (spec_l6kAxis.l0 (k + 1) y0 y1))
  | 0 => fun _ _ r h => by simp [spec_l6kAxis.l0] at h
  | k + 1 => by
    have ih0 := spec_l6kAxis.mono_l k
    · intro y0 y1
      unfold spec_l6kAxis.l0
      repeat' first
      | (with_reducible exact ih0 _ _)
      | (with_reducible exact LeO.refl _)
      | (with_reducible exact LeO.none _)
      | (with_reducible refine LeO.ite ?_ ?_)
      | (with_reducible refine LeO.bind ?_ (fun _ => ?_))
      | exact ih0 _ _
      | exact LeO.none _
      | refine LeO.ite ?_ ?_
      | refine LeO.bind ?_ (fun _ => ?_)
theorem spec_l6kAxis.mono : ∀ a0 k, LeO (spec_l6kAxis.f k a0) (spec_l6kAxis.f (k + 1) a0) := by
  intro a0 k
  have ih0 := spec_l6kAxis.mono_l k
  unfold spec_l6kAxis.f
  repeat' first
      | (with_reducible exact ih0 _ _)
      | (with_reducible exact LeO.refl _)
      | (with_reducible exact LeO.none _)
      | (with_reducible refine LeO.ite ?_ ?_)
      | (with_reducible refine LeO.bind ?_ (fun _ => ?_))
      | exact ih0 _ _
      | exact LeO.none _
      | refine LeO.ite ?_ ?_
      | refine LeO.bind ?_ (fun _ => ?_)
set_option maxHeartbeats 8000000 in
set_option maxRecDepth 100000 in
theorem spec_l6kAxis.calls (k : Nat) (A0 : Option Addr) (c0 : Nat) (l0 : List Int) (r : Int) (w : World) (hr0 : Kd.C (Kd.int .i64) w A0 l0.length l0) (hc0 : l0.length ≤ c0) (h : spec_l6kAxis.f k l0 = some r) :
    Calls Try.prog 50 #[.slice A0 l0.length c0] w fun e w' => e = .returned (.int .i64 r) ∧ Drawn0 w w' := by
  have HR0 := Aside0.mk hr0; have HC0 := Aside0.mk hc0; clear hr0 hc0; unfold spec_l6kAxis.f at h; have H := h; clear h; have H' := Aside0.mk H; clear H; go_enter Try.func50, Try.ntmps50
  go_wp2
  go_loopg [3] k (fun kq v3 w' => ∃ (x3_1 : Int), v3 = .int .i64 x3_1 ∧ Aside0 (spec_l6kAxis.l0 kq l0 x3_1 = some r) ∧ Aside0 (kq ≤ k) ∧ Drawn0 w w')
  case atStart => exact ⟨(0), sR, H', ⟨Nat.le_refl _⟩, by repeat (first | exact Drawn0.refl _ | apply Drawn0.step)⟩
  case round =>
    clear H'; obtain ⟨x3_1, rfl, HA, HK1, ⟨m1, rfl⟩⟩ := hrel; cases gk with
    | zero => exact absurd HA.out (by simp [spec_l6kAxis.l0])
    | succ k1 =>
      have H := HA.out; clear HA; simp only [spec_l6kAxis.l0] at H; obtain ⟨c2, H⟩ := ifN H; have c2b0 : decide (0 ≤ x3_1) = true := decide_eq_true c2; clear c2; obtain ⟨c3, H⟩ := ifN H; have c3b0 : decide (x3_1 < (l0.length : Int)) = true := decide_eq_true c3; clear c3
      by_cases c4 : (rd l0 x3_1) = 0
      · rw [if_pos c4] at H
        have c4b0 : ((rd l0 x3_1) == 0) = true := beq_iff_eq.mpr c4; have c4b1 : ((rd l0 x3_1) != 0) = false := bne_eq_false_iff_eq.mpr c4; clear c4; have H' := Aside0.mk H; clear H; have p546 : 0 ≤ (x3_1 : Int) := oD; have q546 : x3_1 < (l0.length : Int) := oD; obtain ⟨ad546, e546, hx546_0⟩ := Kd.at_int HR0.out x3_1 p546 q546; cases e546; replace p546 := eq_true p546; replace q546 := eq_true q546
        go_wp2
        go_roundg k1
        case measure => have := HK1.out; omega
        case rel => exact ⟨(wrap64 (x3_1 + 1)), sR, H', ⟨by have := HK1.out; omega⟩, by repeat (first | exact Drawn0.refl _ | apply Drawn0.step)⟩
      rw [if_neg c4] at H; have c4b0 : ((rd l0 x3_1) == 0) = false := beq_eq_false_iff_ne.mpr c4; have c4b1 : ((rd l0 x3_1) != 0) = true := bne_iff_ne.mpr c4; obtain rfl := Option.some.inj H; have p546 : 0 ≤ (x3_1 : Int) := oD; have q546 : x3_1 < (l0.length : Int) := oD; obtain ⟨ad546, e546, hx546_0⟩ := Kd.at_int HR0.out x3_1 p546 q546; cases e546; replace p546 := eq_true p546; replace q546 := eq_true q546
      go_wp2
      go_ret
      exact ⟨by first | rfl | (simp; done) | (simp [*]; done), by repeat (first | exact Drawn0.refl _ | apply Drawn0.step)⟩

/-! ### spec_ConicAt: function 21 -/
def spec_ConicAt.j0 : Nat → List Int → List Int → Int → Int → Bool → Option (List Int × Bool)
  | 0, _, _, _, _, _ => none
  | k + 1, x0, x1, x2, x3, x21 => if x21 = true then (some ((([] : List Int)), false)) else ((spec_l6kAxis.f k x1).bind fun t551 => ((spec_l6kAway.f t551 x2 x3).bind fun t552 => ((spec_ConicOther.f k x0 x1 t552).bind fun bt555 => (some (bt555.1, bt555.2)))))
def spec_ConicAt.f (k : Nat) (l0 : List Int) (l1 : List Int) (a2 : Int) (a3 : Int) : Option (List Int × Bool) := (spec_ConicPoint.f k l0 l1).bind fun t547 => (if t547 = true then (if a2 = 0 then (spec_ConicAt.j0 k l0 l1 a2 a3 (a3 == 0)) else (spec_ConicAt.j0 k l0 l1 a2 a3 false)) else (spec_ConicAt.j0 k l0 l1 a2 a3 true))
theorem spec_ConicAt.mono_l : ∀ k, (∀ y0 y1 y2 y3 y4, LeO (spec_ConicAt.j0 k y0 y1 y2 y3 y4) (spec_ConicAt.j0 (k + 1) y0 y1 y2 y3 y4))
  | 0 => fun _ _ _ _ _ r h => by simp [spec_ConicAt.j0] at h
  | k + 1 => by
    have ih0 := spec_ConicAt.mono_l k
    · intro y0 y1 y2 y3 y4
      unfold spec_ConicAt.j0
      repeat' first
      | (with_reducible exact ih0 _ _ _ _ _)
      | (with_reducible exact spec_ConicOther.mono _ _ _ _)
      | (with_reducible exact spec_ConicPoint.mono _ _ _)
      | (with_reducible exact spec_l6kAxis.mono _ _)
      | (with_reducible exact LeO.refl _)
      | (with_reducible exact LeO.none _)
      | (with_reducible refine LeO.ite ?_ ?_)
      | (with_reducible refine LeO.bind ?_ (fun _ => ?_))
      | exact ih0 _ _ _ _ _
      | exact spec_ConicOther.mono _ _ _ _
      | exact spec_ConicPoint.mono _ _ _
      | exact spec_l6kAxis.mono _ _
      | exact LeO.none _
      | refine LeO.ite ?_ ?_
      | refine LeO.bind ?_ (fun _ => ?_)
theorem spec_ConicAt.mono : ∀ a0 a1 a2 a3 k, LeO (spec_ConicAt.f k a0 a1 a2 a3) (spec_ConicAt.f (k + 1) a0 a1 a2 a3) := by
  intro a0 a1 a2 a3 k
  have ih0 := spec_ConicAt.mono_l k
  unfold spec_ConicAt.f
  repeat' first
      | (with_reducible exact ih0 _ _ _ _ _)
      | (with_reducible exact spec_ConicOther.mono _ _ _ _)
      | (with_reducible exact spec_ConicPoint.mono _ _ _)
      | (with_reducible exact spec_l6kAxis.mono _ _)
      | (with_reducible exact LeO.refl _)
      | (with_reducible exact LeO.none _)
      | (with_reducible refine LeO.ite ?_ ?_)
      | (with_reducible refine LeO.bind ?_ (fun _ => ?_))
      | exact ih0 _ _ _ _ _
      | exact spec_ConicOther.mono _ _ _ _
      | exact spec_ConicPoint.mono _ _ _
      | exact spec_l6kAxis.mono _ _
      | exact LeO.none _
      | refine LeO.ite ?_ ?_
      | refine LeO.bind ?_ (fun _ => ?_)
set_option maxHeartbeats 8000000 in
set_option maxRecDepth 100000 in
theorem spec_ConicAt.calls (k : Nat) (A0 : Option Addr) (c0 : Nat) (l0 : List Int) (A1 : Option Addr) (c1 : Nat) (l1 : List Int) (a2 : Int) (a3 : Int) (r1 : List Int) (r2 : Bool) (w : World) (hr0 : Kd.C (Kd.int .i64) w A0 l0.length l0) (hc0 : l0.length ≤ c0) (hr1 : Kd.C (Kd.int .i64) w A1 l1.length l1) (hc1 : l1.length ≤ c1) (h : spec_ConicAt.f k l0 l1 a2 a3 = some (r1, r2)) :
    Calls Try.prog 21 #[.slice A0 l0.length c0, .slice A1 l1.length c1, .int .i64 a2, .int .i64 a3] w fun e w' => ∃ v0_ : Value, e = .returned (.tuple #[v0_, .bool r2]) ∧ Kd.R (Kd.int .i64) 3 w' w.heap.size (fun _ => True) v0_ r1 ∧ Below w.heap.size w w' := by
  have HR0 := Aside0.mk hr0; have HC0 := Aside0.mk hc0; clear hr0 hc0; have HR1 := Aside0.mk hr1; have HC1 := Aside0.mk hc1; clear hr1 hc1; have HB := Aside0.mk (Below.refl w.heap.size w); unfold spec_ConicAt.f at h; have H := h; clear h; have HC5 := Aside0.mk H; clear H; go_enter Try.func21, Try.ntmps21
  go_upto_region 1 with (fail)
  go_cut [21] (fun v21 wc => ∃ (kq : Nat) (x21_4 : Bool), v21 = .bool x21_4 ∧ Aside0 (spec_ConicAt.j0 kq l0 l1 a2 a3 x21_4 = some (r1, r2)) ∧ Aside0 (kq ≤ k) ∧ Aside0 (Below w.heap.size w wc))
  case first =>
    have H := HC5.out; clear HC5; obtain ⟨t547, A6, H⟩ := bnd H
    by_cases c7 : t547 = true
    · subst c7
      replace H := ifT H
      by_cases c8 : a2 = 0
      · rw [if_pos c8] at H
        have c8b0 : (a2 == 0) = true := beq_iff_eq.mpr c8; have c8b1 : (a2 != 0) = false := bne_eq_false_iff_eq.mpr c8; clear c8
        (first | rw [c8b0] | (simp only [i64_w, i32_w]; rw [c8b0]) | skip)
        have H' := Aside0.mk H; clear H
        go_wp2_with (first | ((with_reducible refine gate_callee (f := 10) rfl ?_); refine goesK (some 12) Try.func10 #[.slice A0 l0.length c0, .slice A1 l1.length c1] ?_; (with_reducible refine (spec_ConicPoint.calls k _ _ l0 _ _ l1 true _ ?side1 ?side2 ?side3 ?side4 A6.out).mono ?_); (case side1 => exact U (Kd.C_below HR0.out HB.out)); (case side2 => exact HC0.out); (case side3 => exact U (Kd.C_below HR1.out HB.out)); (case side4 => exact HC1.out); rintro e w9 ⟨rfl, hb⟩; refine ⟨_, rfl, ?_⟩; replace HB := BS hb; (try clear hb)))
        go_meet
        case rel => exact ⟨_, ((a3 == 0)), sR, H', ⟨oR⟩, ⟨BU⟩⟩
      rw [if_neg c8] at H; have c8b0 : (a2 == 0) = false := beq_eq_false_iff_ne.mpr c8; have c8b1 : (a2 != 0) = true := bne_iff_ne.mpr c8
      (first | rw [c8b0] | (simp only [i64_w, i32_w]; rw [c8b0]) | skip)
      have H' := Aside0.mk H; clear H
      go_wp2_with (first | ((with_reducible refine gate_callee (f := 10) rfl ?_); refine goesK (some 12) Try.func10 #[.slice A0 l0.length c0, .slice A1 l1.length c1] ?_; (with_reducible refine (spec_ConicPoint.calls k _ _ l0 _ _ l1 true _ ?side1 ?side2 ?side3 ?side4 A6.out).mono ?_); (case side1 => exact U (Kd.C_below HR0.out HB.out)); (case side2 => exact HC0.out); (case side3 => exact U (Kd.C_below HR1.out HB.out)); (case side4 => exact HC1.out); rintro e w10 ⟨rfl, hb⟩; refine ⟨_, rfl, ?_⟩; replace HB := BS hb; (try clear hb)))
      go_meet
      case rel => exact ⟨_, (false), sR, H', ⟨oR⟩, ⟨BU⟩⟩
    replace c7 := Bool.eq_false_iff.mpr c7; subst c7; replace H := ifF H; have H' := Aside0.mk H; clear H
    go_wp2_with (first | ((with_reducible refine gate_callee (f := 10) rfl ?_); refine goesK (some 12) Try.func10 #[.slice A0 l0.length c0, .slice A1 l1.length c1] ?_; (with_reducible refine (spec_ConicPoint.calls k _ _ l0 _ _ l1 false _ ?side1 ?side2 ?side3 ?side4 A6.out).mono ?_); (case side1 => exact U (Kd.C_below HR0.out HB.out)); (case side2 => exact HC0.out); (case side3 => exact U (Kd.C_below HR1.out HB.out)); (case side4 => exact HC1.out); rintro e w11 ⟨rfl, hb⟩; refine ⟨_, rfl, ?_⟩; replace HB := BS hb; (try clear hb)))
    go_meet
    case rel => exact ⟨_, (true), sR, H', ⟨oR⟩, ⟨BU⟩⟩
  case rest =>
    clear HC5; obtain ⟨kq, x21_4, rfl, HA, HJ4, HB⟩ := hcut; cases kq with
    | zero => exact absurd HA.out (by simp [spec_ConicAt.j0])
    | succ kj4 =>
      have H := HA.out; clear HA; simp only [spec_ConicAt.j0] at H
      by_cases c12 : x21_4 = true
      · subst c12
        replace H := ifT H; obtain ⟨y548, hy548⟩ : ∃ y_ : List Int, y_ = (([] : List Int)) := ⟨_, rfl⟩; replace H : (some (y548, false)) = some (r1, r2) := rH hy548 H; have Ny548 := Aside0.mk hy548; clear hy548; simp only [Option.some.injEq, Prod.mk.injEq] at H; obtain ⟨rfl, rfl⟩ := H
        go_wp2_with (first | ((with_reducible refine gate_dst (N := 22) rfl ?_); refine Kd.R_lit (Kd.int .i64) _ 3 ?hg (N := 22) ?hd (xs := ([] : List Int)) (inner := []) (ok := fun _ => True) (okp := fun _ => True) ?hr ?hp (fun _ hk => hk) trivial (Below.refl _ _) (Nat.le_refl _) (by simp) ?_; (case hd => rfl); (case hg => rfl); (case hr => first | (go_simp; done) | (go_simp; rfl)); (case hp => exact (Reps.none _ _)); intro v549 w13 ho14 hb hg_ hnew_; clear hg_ hnew_; (first | rw [← Ny548.out] at ho14 | (simp only [Int.reduceToNat] at ho14; rw [← Ny548.out] at ho14)); have HO550 := Aside0.mk (Kd.R_lower ho14 (below_size BU)); replace HB := BS hb; clear hb ho14))
        go_ret2
        exact ⟨_, eR, U HO550.out, BU⟩
      replace c12 := Bool.eq_false_iff.mpr c12; subst c12; replace H := ifF H; obtain ⟨t551, A15, H⟩ := bnd H; obtain ⟨t552, A16, H⟩ := bnd H; obtain ⟨⟨t555, t556⟩, A17, H⟩ := bnd H; replace H : (some (t555, t556)) = some (r1, r2) := H; simp only [Option.some.injEq, Prod.mk.injEq] at H; obtain ⟨rfl, rfl⟩ := H
      go_wp2_with (first | ((with_reducible refine gate_callee (f := 50) rfl ?_); refine goesK (some 26) Try.func50 #[.slice A1 l1.length c1] ?_; (with_reducible refine (spec_l6kAxis.calls kj4 _ _ l1 t551 _ ?side1 ?side2 A15.out).mono ?_); (case side1 => exact U (Kd.C_below HR1.out HB.out)); (case side2 => exact HC1.out); rintro e w' ⟨rfl, ⟨nd, rfl⟩⟩; refine ⟨_, rfl, ?_⟩) | ((with_reducible refine gate_callee (f := 49) rfl ?_); refine goesK (some 29) Try.func49 #[.int .i64 t551, .int .i64 a2, .int .i64 a3] ?_; (with_reducible refine (spec_l6kAway.calls t551 a2 a3 t552 _ A16.out).mono ?_); rintro e w18 ⟨v553, rfl, ho0, hb⟩; refine ⟨_, rfl, ?_⟩; have HO554 := Aside0.mk (Kd.R_lower ho0 (below_size BU)); replace HB := BS hb; (try clear hb); (try clear ho0); obtain ⟨Ao19, co19, eo19⟩ := Kd.R_slice HO554.out; subst eo19) | ((with_reducible refine gate_callee (f := 18) rfl ?_); refine goesK (some 30) Try.func18 #[.slice A0 l0.length c0, .slice A1 l1.length c1, .slice Ao19 t552.length co19] ?_; (with_reducible refine (spec_ConicOther.calls kj4 _ _ l0 _ _ l1 _ _ t552 t555 t556 _ ?side1 ?side2 ?side3 ?side4 ?side5 ?side6 A17.out).mono ?_); (case side1 => exact U (Kd.C_below HR0.out HB.out)); (case side2 => exact HC0.out); (case side3 => exact U (Kd.C_below HR1.out HB.out)); (case side4 => exact HC1.out); (case side5 => exact U ((Kd.R_reads' HO554.out).2.2)); (case side6 => exact (Kd.R_reads' HO554.out).2.1); rintro e w20 ⟨v557, rfl, ho0, hb⟩; refine ⟨_, rfl, ?_⟩; have HO558 := Aside0.mk (Kd.R_lower (Kd.R_new' ho0 (Kd.R_lt (U HO554.out))) (below_size BU)); replace HO554 := Aside0.mk (Kd.R_elder' (U HO554.out) (Kd.R_base ho0) hb); replace HB := BS hb; (try clear hb); (try clear ho0)))
      go_ret2
      exact ⟨_, eR, Kd.RM HO558.out (fun _ hk => trivial), BU⟩

/-! ### impl_isNumber: function 51 -/
def impl_isNumber.f (a0 : Int) : Option (Bool) := if a0 ≥ (-5000) then (some (decide (a0 ≤ 5000))) else (some false)
set_option maxHeartbeats 8000000 in
set_option maxRecDepth 100000 in
theorem impl_isNumber.calls (a0 : Int) (r : Bool) (w : World) (h : impl_isNumber.f a0 = some r) :
    Calls Try.prog 51 #[.int .i64 a0] w fun e w' => e = .returned (.bool r) ∧ Drawn0 w w' := by
  unfold impl_isNumber.f at h; have H := h; clear h
  by_cases c2 : a0 ≥ (-5000)
  · rw [if_pos c2] at H
    have c2b0 : decide ((-5000) ≤ a0) = true := decide_eq_true c2; clear c2; obtain rfl := Option.some.inj H; go_enter Try.func51, Try.ntmps51
    go_wp2
    go_ret
    exact ⟨by first | rfl | (simp; done) | (simp [*]; done), by repeat (first | exact Drawn0.refl _ | apply Drawn0.step)⟩
  rw [if_neg c2] at H; have c2b0 : decide ((-5000) ≤ a0) = false := decide_eq_false c2; clear c2; obtain rfl := Option.some.inj H; go_enter Try.func51, Try.ntmps51
  go_wp2
  go_ret
  exact ⟨by first | rfl | (simp; done) | (simp [*]; done), by repeat (first | exact Drawn0.refl _ | apply Drawn0.step)⟩

end Go.Proofs.Ytpaohkhmhdhibaa.PFnAt
