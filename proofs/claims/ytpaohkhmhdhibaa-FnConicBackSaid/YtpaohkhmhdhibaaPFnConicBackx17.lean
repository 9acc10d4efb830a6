-- Written by a program of this session (wip/print2.py): the functions that the law reaches, plain, and the walks.
import Derived.Test.YtpaohkhmhdhibaaPFnConicBackx0
import Derived.Test.YtpaohkhmhdhibaaPFnConicBackx6
import Derived.Test.YtpaohkhmhdhibaaPFnConicBackx7
import Derived.Test.YtpaohkhmhdhibaaPFnConicBackx9
import Derived.Test.YtpaohkhmhdhibaaPFnConicBackx16
namespace Go.Proofs.Ytpaohkhmhdhibaa.PFnConicBack
open Go.RowKit Go.Proofs.YtpaohkhmhdhibaaW.PrintWords Go.Proofs.YtpaohkhmhdhibaaW.PrintLast Go.Proofs.YtpaohkhmhdhibaaW.PrintMore
attribute [local go_sem] max2_int min2_int max_two min_two max_three min_three max_four min_four   -- for this text's walks alone
set_option linter.unusedVariables false
set_option linter.unusedSimpArgs false

/-! ### spec_ConicBack: function 24 -/
mutual
def spec_ConicBack.j0 : Nat → List Int → List Int → List Int → Bool → Option (Int × Int × Bool)
  | 0, _, _, _, _ => none
  | k + 1, x0, x1, x2, x23 => if x23 = true then (some (0, 0, false)) else ((spec_l6kAxis.f k x1).bind fun t600 => ((spec_l6kTwo.f x1 t600).bind fun t601 => ((spec_l6kTwo.f x2 t600).bind fun t604 => (if 0 < (t604.length : Int) then (if 0 ≤ t600 then (if t600 < (x1.length : Int) then (if 0 < (t601.length : Int) then (if t600 < (x2.length : Int) then (if 1 < (t604.length : Int) then (if 1 < (t601.length : Int) then ((some (([wrap64 ((wrap64 ((rd t604 0) * (rd x1 t600))) - (wrap64 ((rd t601 0) * (rd x2 t600)))), wrap64 ((wrap64 ((rd t604 1) * (rd x1 t600))) - (wrap64 ((rd t601 1) * (rd x2 t600))))] : List Int) : List Int)).bind fun y615 => (if 0 < (y615.length : Int) then (if (rd y615 0) = 0 then (if 1 < (y615.length : Int) then (spec_ConicBack.j1 k x0 t600 t601 y615 ((rd y615 1) == 0)) else (none)) else (spec_ConicBack.j1 k x0 t600 t601 y615 false)) else (none))) else (none)) else (none)) else (none)) else (none)) else (none)) else (none)) else (none)))))
def spec_ConicBack.j1 : Nat → List Int → Int → List Int → List Int → Bool → Option (Int × Int × Bool)
  | 0, _, _, _, _, _ => none
  | k + 1, x0, x9, x10, x12, x76 => if x76 = true then ((spec_l6kTwo.f x0 x9).bind fun t620 => (if 1 < (t620.length : Int) then (if 1 < (x10.length : Int) then (if 0 < (t620.length : Int) then (if 0 < (x10.length : Int) then ((spec_l5Plain.f k (([wrap64 ((rd t620 1) * (rd x10 1)), wrap64 (-(wrap64 ((rd t620 0) * (rd x10 0))))] : List Int))).bind fun t630 => (if 0 < (t630.length : Int) then (if 1 < (t630.length : Int) then (some (rd t630 0, rd t630 1, true)) else (none)) else (none))) else (none)) else (none)) else (none)) else (none))) else ((spec_l5Plain.f k x12).bind fun t635 => (if 0 < (t635.length : Int) then (if 1 < (t635.length : Int) then (some (rd t635 0, rd t635 1, true)) else (none)) else (none)))
end
def spec_ConicBack.f (k : Nat) (l0 : List Int) (l1 : List Int) (l2 : List Int) : Option (Int × Int × Bool) := (spec_ConicPoint.f k l0 l1).bind fun t598 => (if t598 = true then ((spec_ZeroIs.f k l0 l2).bind fun t599 => (spec_ConicBack.j0 k l0 l1 l2 (!t599))) else (spec_ConicBack.j0 k l0 l1 l2 true))
theorem spec_ConicBack.mono_l : ∀ k, (∀ y0 y1 y2 y3, LeO (spec_ConicBack.j0 k y0 y1 y2 y3) (spec_ConicBack.j0 (k + 1) y0 y1 y2 y3)) ∧ (∀ y0 y1 y2 y3 y4, LeO (spec_ConicBack.j1 k y0 y1 y2 y3 y4) (spec_ConicBack.j1 (k + 1) y0 y1 y2 y3 y4))
  | 0 => ⟨fun _ _ _ _ r h => by simp [spec_ConicBack.j0] at h, fun _ _ _ _ _ r h => by simp [spec_ConicBack.j1] at h⟩
  | k + 1 => by
    obtain ⟨ih0, ih1⟩ := spec_ConicBack.mono_l k
    refine ⟨?_, ?_⟩ <;> intros <;> (first | unfold spec_ConicBack.j0 | unfold spec_ConicBack.j1) <;> (repeat' first
      | (with_reducible exact ih0 _ _ _ _)
      | (with_reducible exact ih1 _ _ _ _ _)
      | (with_reducible exact spec_ConicPoint.mono _ _ _)
      | (with_reducible exact spec_ZeroIs.mono _ _ _)
      | (with_reducible exact spec_l5Plain.mono _ _)
      | (with_reducible exact spec_l6kAxis.mono _ _)
      | (with_reducible exact LeO.refl _)
      | (with_reducible exact LeO.none _)
      | (with_reducible refine LeO.ite ?_ ?_)
      | (with_reducible refine LeO.bind ?_ (fun _ => ?_))
      | exact ih0 _ _ _ _
      | exact ih1 _ _ _ _ _
      | exact spec_ConicPoint.mono _ _ _
      | exact spec_ZeroIs.mono _ _ _
      | exact spec_l5Plain.mono _ _
      | exact spec_l6kAxis.mono _ _
      | exact LeO.none _
      | refine LeO.ite ?_ ?_
      | refine LeO.bind ?_ (fun _ => ?_))
theorem spec_ConicBack.mono : ∀ a0 a1 a2 k, LeO (spec_ConicBack.f k a0 a1 a2) (spec_ConicBack.f (k + 1) a0 a1 a2) := by
  intro a0 a1 a2 k
  obtain ⟨ih0, ih1⟩ := spec_ConicBack.mono_l k
  unfold spec_ConicBack.f
  repeat' first
      | (with_reducible exact ih0 _ _ _ _)
      | (with_reducible exact ih1 _ _ _ _ _)
      | (with_reducible exact spec_ConicPoint.mono _ _ _)
      | (with_reducible exact spec_ZeroIs.mono _ _ _)
      | (with_reducible exact spec_l5Plain.mono _ _)
      | (with_reducible exact spec_l6kAxis.mono _ _)
      | (with_reducible exact LeO.refl _)
      | (with_reducible exact LeO.none _)
      | (with_reducible refine LeO.ite ?_ ?_)
      | (with_reducible refine LeO.bind ?_ (fun _ => ?_))
      | exact ih0 _ _ _ _
      | exact ih1 _ _ _ _ _
      | exact spec_ConicPoint.mono _ _ _
      | exact spec_ZeroIs.mono _ _ _
      | exact spec_l5Plain.mono _ _
      | exact spec_l6kAxis.mono _ _
      | exact LeO.none _
      | refine LeO.ite ?_ ?_
      | refine LeO.bind ?_ (fun _ => ?_)
def spec_ConicBack.T6 : Bool × List (List Nat × List Nat) := (true, [([], []), ([0], [0]), ([1], [1]), ([], []), ([], []), ([3, 4], [3, 4]), ([5], [5]), ([2, 6], [2, 6]), ([], []), ([8], [8]), ([9], [9]), ([], []), ([], []), ([11, 12], [11, 12]), ([13], [13]), ([10, 14], [10, 14]), ([7, 15], [7, 15]), ([], []), ([17], [17]), ([18], [18]), ([], []), ([], []), ([20, 21], [20, 21]), ([22], [22]), ([19, 23], [19, 23]), ([], []), ([25], [25]), ([26], [26]), ([], []), ([], []), ([28, 29], [28, 29]), ([30], [30]), ([27, 31], [27, 31]), ([24, 32], [24, 32]), ([16, 33], [16, 33]), ([34, 0, 1, 2, 3, 4, 5, 6, 7, 8, 9, 10, 11, 12, 13, 14, 15, 16, 17, 18, 19, 20, 21, 22, 23, 24, 25, 26, 27, 28, 29, 30, 31, 32, 33, 34], [34])])
def spec_ConicBack.B6 : List Nat := [0, 1, 3, 0, 0, 24, 56, 127, 0, 256, 768, 0, 0, 6144, 14336, 32512, 65535, 0, 131072, 393216, 0, 0, 3145728, 7340032, 16646144, 0, 33554432, 100663296, 0, 0, 805306368, 1879048192, 4261412864, 8589803520, 17179869183, 34359738367]
theorem spec_ConicBack.tab6 : rtab .any (opsOf Try.f24 6) = spec_ConicBack.T6 := by kernel_rfl
theorem spec_ConicBack.bits6 : waitsOk spec_ConicBack.T6.2 spec_ConicBack.B6 = true := by kernel_rfl
def spec_ConicBack.T9 : Bool × List (List Nat × List Nat) := (true, [([], []), ([0], [0]), ([1], [1]), ([], []), ([3], [3]), ([4], [4]), ([2, 5], [2, 5]), ([], []), ([7], [7]), ([8], [8]), ([], []), ([10], [10]), ([11], [11]), ([9, 12], [9, 12]), ([13], [13]), ([6, 14], [6, 14]), ([15, 0, 1, 2, 3, 4, 5, 6, 7, 8, 9, 10, 11, 12, 13, 14, 15], [15])])
def spec_ConicBack.B9 : List Nat := [0, 1, 3, 0, 8, 24, 63, 0, 128, 384, 0, 1024, 3072, 8064, 16256, 32767, 65535]
theorem spec_ConicBack.tab9 : rtab .any (opsOf Try.f24 9) = spec_ConicBack.T9 := by kernel_rfl
theorem spec_ConicBack.bits9 : waitsOk spec_ConicBack.T9.2 spec_ConicBack.B9 = true := by kernel_rfl
def spec_ConicBack.T11 : Bool × List (List Nat × List Nat) := (true, [([], []), ([0], [0]), ([1], [1]), ([], []), ([3], [3]), ([4], [4]), ([2, 0, 1, 2], [2]), ([5, 6, 0, 1, 2, 3, 4, 5, 6], [5]), ([7, 0, 1, 2, 3, 4, 5, 6, 7], [])])
def spec_ConicBack.B11 : List Nat := [0, 1, 3, 0, 8, 24, 7, 127, 255]
theorem spec_ConicBack.tab11 : rtab .any (opsOf Try.f24 11) = spec_ConicBack.T11 := by kernel_rfl
theorem spec_ConicBack.bits11 : waitsOk spec_ConicBack.T11.2 spec_ConicBack.B11 = true := by kernel_rfl
set_option maxHeartbeats 8000000 in
set_option maxRecDepth 100000 in
theorem spec_ConicBack.calls (k : Nat) (A0 : Option Addr) (c0 : Nat) (l0 : List Int) (A1 : Option Addr) (c1 : Nat) (l1 : List Int) (A2 : Option Addr) (c2 : Nat) (l2 : List Int) (r1 : Int) (r2 : Int) (r3 : Bool) (w : World) (hr0 : Kd.C (Kd.int .i64) w A0 l0.length l0) (hc0 : l0.length ≤ c0) (hr1 : Kd.C (Kd.int .i64) w A1 l1.length l1) (hc1 : l1.length ≤ c1) (hr2 : Kd.C (Kd.int .i64) w A2 l2.length l2) (hc2 : l2.length ≤ c2) (h : spec_ConicBack.f k l0 l1 l2 = some (r1, r2, r3)) :
    Calls Try.prog 24 #[.slice A0 l0.length c0, .slice A1 l1.length c1, .slice A2 l2.length c2] w fun e w' => e = .returned (.tuple #[.int .i64 r1, .int .i64 r2, .bool r3]) ∧ Below w.heap.size w w' := by
  have HR0 := Aside0.mk hr0; have HC0 := Aside0.mk hc0; clear hr0 hc0; have HR1 := Aside0.mk hr1; have HC1 := Aside0.mk hc1; clear hr1 hc1; have HR2 := Aside0.mk hr2; have HC2 := Aside0.mk hc2; clear hr2 hc2; have HB := Aside0.mk (Below.refl w.heap.size w); unfold spec_ConicBack.f at h; have H := h; clear h; have HC4 := Aside0.mk H; clear H; go_enter Try.func24, Try.ntmps24
  go_upto_region 1 with (fail)
  go_cut [23] (fun v23 wc => ∃ (kq : Nat) (x23_3 : Bool), v23 = .bool x23_3 ∧ Aside0 (spec_ConicBack.j0 kq l0 l1 l2 x23_3 = some (r1, r2, r3)) ∧ Aside0 (kq ≤ k) ∧ Aside0 (Below w.heap.size w wc))
  case first =>
    have H := HC4.out; clear HC4; obtain ⟨t598, A5, H⟩ := bnd H
    by_cases c6 : t598 = true
    · subst c6
      replace H := ifT H; obtain ⟨t599, A7, H⟩ := bnd H; have H' := Aside0.mk H; clear H
      go_wp2_with (first | ((with_reducible refine gate_callee (f := 10) rfl ?_); refine goesK (some 16) Try.func10 #[.slice A0 l0.length c0, .slice A1 l1.length c1] ?_; (with_reducible refine (spec_ConicPoint.calls k _ _ l0 _ _ l1 true _ ?side1 ?side2 ?side3 ?side4 A5.out).mono ?_); (case side1 => exact U (Kd.C_below HR0.out HB.out)); (case side2 => exact HC0.out); (case side3 => exact U (Kd.C_below HR1.out HB.out)); (case side4 => exact HC1.out); rintro e w8 ⟨rfl, hb⟩; refine ⟨_, rfl, ?_⟩; replace HB := BS hb; (try clear hb)) | (go_at_call 34; (with_reducible refine (spec_ZeroIs.calls k _ _ l0 _ _ l2 t599 _ ?side1 ?side2 ?side3 ?side4 A7.out).mono ?_); (case side1 => exact U (Kd.C_below HR0.out HB.out)); (case side2 => exact HC0.out); (case side3 => exact U (Kd.C_below HR2.out HB.out)); (case side4 => exact HC2.out); rintro e w' ⟨rfl, ⟨nd, rfl⟩⟩))
      go_meet
      case rel => exact ⟨_, (!t599), sR, H', ⟨oR⟩, ⟨BU⟩⟩
    replace c6 := Bool.eq_false_iff.mpr c6; subst c6; replace H := ifF H; have H' := Aside0.mk H; clear H
    go_wp2_with (first | ((with_reducible refine gate_callee (f := 10) rfl ?_); refine goesK (some 16) Try.func10 #[.slice A0 l0.length c0, .slice A1 l1.length c1] ?_; (with_reducible refine (spec_ConicPoint.calls k _ _ l0 _ _ l1 false _ ?side1 ?side2 ?side3 ?side4 A5.out).mono ?_); (case side1 => exact U (Kd.C_below HR0.out HB.out)); (case side2 => exact HC0.out); (case side3 => exact U (Kd.C_below HR1.out HB.out)); (case side4 => exact HC1.out); rintro e w9 ⟨rfl, hb⟩; refine ⟨_, rfl, ?_⟩; replace HB := BS hb; (try clear hb)))
    go_meet
    case rel => exact ⟨_, (true), sR, H', ⟨oR⟩, ⟨BU⟩⟩
  case rest =>
    clear HC4; obtain ⟨kq, x23_3, rfl, HA, HJ3, HB⟩ := hcut; cases kq with
    | zero => exact absurd HA.out (by simp [spec_ConicBack.j0])
    | succ kj3 =>
      have H := HA.out; clear HA; simp only [spec_ConicBack.j0] at H
      by_cases c10 : x23_3 = true
      · subst c10
        replace H := ifT H; simp only [Option.some.injEq, Prod.mk.injEq] at H; obtain ⟨rfl, rfl, rfl⟩ := H
        go_wp2
        go_ret3
        exact ⟨eR, BU⟩
      replace c10 := Bool.eq_false_iff.mpr c10; subst c10; replace H := ifF H; obtain ⟨t600, A11, H⟩ := bnd H; obtain ⟨t601, A12, H⟩ := bnd H; obtain ⟨t604, A13, H⟩ := bnd H; obtain ⟨c14, H⟩ := ifN H; have c14b0 : decide (0 < (t604.length : Int)) = true := decide_eq_true c14; have c14b1 : decide (0 < t604.length) = true := decide_eq_true (by omega); clear c14; obtain ⟨c15, H⟩ := ifN H; have c15b0 : decide (0 ≤ t600) = true := decide_eq_true c15; clear c15; obtain ⟨c16, H⟩ := ifN H; have c16b0 : decide (t600 < (l1.length : Int)) = true := decide_eq_true c16; clear c16; obtain ⟨c17, H⟩ := ifN H; have c17b0 : decide (0 < (t601.length : Int)) = true := decide_eq_true c17; have c17b1 : decide (0 < t601.length) = true := decide_eq_true (by omega); clear c17; obtain ⟨c18, H⟩ := ifN H; have c18b0 : decide (t600 < (l2.length : Int)) = true := decide_eq_true c18; clear c18; obtain ⟨c19, H⟩ := ifN H; have c19b0 : decide (1 < (t604.length : Int)) = true := decide_eq_true c19; have c19b1 : decide (1 < t604.length) = true := decide_eq_true (by omega); clear c19; obtain ⟨c20, H⟩ := ifN H; have c20b0 : decide (1 < (t601.length : Int)) = true := decide_eq_true c20; have c20b1 : decide (1 < t601.length) = true := decide_eq_true (by omega); clear c20; obtain ⟨y615, hy615⟩ : ∃ y_ : List Int, y_ = (([wrap64 ((wrap64 ((rd t604 0) * (rd l1 t600))) - (wrap64 ((rd t601 0) * (rd l2 t600)))), wrap64 ((wrap64 ((rd t604 1) * (rd l1 t600))) - (wrap64 ((rd t601 1) * (rd l2 t600))))] : List Int)) := ⟨_, rfl⟩; replace H : (if 0 < (y615.length : Int) then (if (rd y615 0) = 0 then (if 1 < (y615.length : Int) then (spec_ConicBack.j1 kj3 l0 t600 t601 y615 ((rd y615 1) == 0)) else (none)) else (spec_ConicBack.j1 kj3 l0 t600 t601 y615 false)) else (none)) = some (r1, r2, r3) := rH hy615 H; have Ny615 := Aside0.mk hy615; clear hy615; have HC21 := Aside0.mk H; clear H
      try go_wp2_with (first | ((with_reducible refine gate_callee (f := 50) rfl ?_); refine goesK (some 25) Try.func50 #[.slice A1 l1.length c1] ?_; (with_reducible refine (spec_l6kAxis.calls kj3 _ _ l1 t600 _ ?side1 ?side2 A11.out).mono ?_); (case side1 => exact U (Kd.C_below HR1.out HB.out)); (case side2 => exact HC1.out); rintro e w' ⟨rfl, ⟨nd, rfl⟩⟩; refine ⟨_, rfl, ?_⟩) | ((with_reducible refine gate_callee (f := 53) rfl ?_); refine goesK (some 28) Try.func53 #[.slice A1 l1.length c1, .int .i64 t600] ?_; (with_reducible refine (spec_l6kTwo.calls _ _ l1 t600 t601 _ ?side1 ?side2 A12.out).mono ?_); (case side1 => exact U (Kd.C_below HR1.out BU)); (case side2 => exact HC1.out); rintro e w22 ⟨v602, rfl, ho0, hb⟩; refine ⟨_, rfl, ?_⟩; have HO603 := Aside0.mk (Kd.R_lower ho0 (below_size BU)); replace HB := BS hb; (try clear hb); (try clear ho0)) | ((with_reducible refine gate_callee (f := 53) rfl ?_); refine goesK (some 31) Try.func53 #[.slice A2 l2.length c2, .int .i64 t600] ?_; (with_reducible refine (spec_l6kTwo.calls _ _ l2 t600 t604 _ ?side1 ?side2 A13.out).mono ?_); (case side1 => exact U (Kd.C_below HR2.out HB.out)); (case side2 => exact HC2.out); rintro e w23 ⟨v605, rfl, ho0, hb⟩; refine ⟨_, rfl, ?_⟩; have HO606 := Aside0.mk (Kd.R_lower (Kd.R_new' ho0 (Kd.R_lt (U HO603.out))) (below_size BU)); replace HO603 := Aside0.mk (Kd.R_elder' (U HO603.out) (Kd.R_base ho0) hb); replace HB := BS hb; (try clear hb); (try clear ho0)))
      replace HO603 := Aside0.mk (Kd.R_drew HO603.out); replace HO606 := Aside0.mk (Kd.R_drew HO606.out); replace HB := Aside0.mk (below_drew1 HB.out); obtain ⟨Ao25, co25, eo25⟩ := Kd.R_slice HO606.out
      (first | subst eo25 | (injection eo25 with f1_ f2_ f3_; have f4_ := f1_.symm; have f5_ := f3_.symm; clear f1_ f2_ f3_; subst f4_; subst f5_))
      have p607 : 0 ≤ (0 : Int) := (by omega); have q607 : 0 < (t604.length : Int) := oD; obtain ⟨ad607, e607, hx607_0⟩ := Kd.at_int (Kd.R_reads' HO606.out).2.2 0 p607 q607; cases e607; have qi607 : (0 < t604.length) = True := eq_true (by omega)
      (try rw [show ((0 : Int)).toNat = 0 from rfl] at hx607_0)
      (try rw [Addr.add_zero'] at hx607_0)
      replace p607 := eq_true p607; replace q607 := eq_true q607; have p608 : 0 ≤ (t600 : Int) := oD; have q608 : t600 < (l1.length : Int) := oD; obtain ⟨ad608, e608, hx608_0⟩ := Kd.at_int HR1.out t600 p608 q608; have hw608_0 := hx608_0; cases e608; replace hx608_0 := (HB.out.cell (World.block_lt_of_cell? w _ hx608_0)).trans hx608_0; replace p608 := eq_true p608; replace q608 := eq_true q608; obtain ⟨Ao26, co26, eo26⟩ := Kd.R_slice HO603.out
      (first | subst eo26 | (injection eo26 with f1_ f2_ f3_; have f4_ := f1_.symm; have f5_ := f3_.symm; clear f1_ f2_ f3_; subst f4_; subst f5_))
      have p609 : 0 ≤ (0 : Int) := (by omega); have q609 : 0 < (t601.length : Int) := oD; obtain ⟨ad609, e609, hx609_0⟩ := Kd.at_int (Kd.R_reads' HO603.out).2.2 0 p609 q609; cases e609; have qi609 : (0 < t601.length) = True := eq_true (by omega)
      (try rw [show ((0 : Int)).toNat = 0 from rfl] at hx609_0)
      (try rw [Addr.add_zero'] at hx609_0)
      replace p609 := eq_true p609; replace q609 := eq_true q609; have p610 : 0 ≤ (t600 : Int) := oD; have q610 : t600 < (l2.length : Int) := oD; obtain ⟨ad610, e610, hx610_0⟩ := Kd.at_int HR2.out t600 p610 q610; have hw610_0 := hx610_0; cases e610; replace hx610_0 := (HB.out.cell (World.block_lt_of_cell? w _ hx610_0)).trans hx610_0; replace p610 := eq_true p610; replace q610 := eq_true q610; have p611 : 0 ≤ (1 : Int) := (by omega); have q611 : 1 < (t604.length : Int) := oD; obtain ⟨ad611, e611, hx611_0⟩ := Kd.at_int (Kd.R_reads' HO606.out).2.2 1 p611 q611; obtain rfl : ad607 = ad611 := (by injection e611)
      (try simp only [show (1 : Int).toNat = 1 from rfl, Nat.reduceMul, Nat.reduceEqDiff, Go.Addr.add, ↓reduceIte] at hx611_0)
      have qi611 : (1 < t604.length) = True := eq_true (by omega)
      (try rw [show ((1 : Int)).toNat = 1 from rfl] at hx611_0)
      replace p611 := eq_true p611; replace q611 := eq_true q611; have p612 : 0 ≤ (t600 : Int) := oD; have q612 : t600 < (l1.length : Int) := oD; obtain ⟨ad612, e612, hx612_0⟩ := Kd.at_int HR1.out t600 p612 q612; have hw612_0 := hx612_0; obtain rfl : ad608 = ad612 := (by injection e612); replace hx612_0 := (HB.out.cell (World.block_lt_of_cell? w _ hx612_0)).trans hx612_0; replace p612 := eq_true p612; replace q612 := eq_true q612; have p613 : 0 ≤ (1 : Int) := (by omega); have q613 : 1 < (t601.length : Int) := oD; obtain ⟨ad613, e613, hx613_0⟩ := Kd.at_int (Kd.R_reads' HO603.out).2.2 1 p613 q613; obtain rfl : ad609 = ad613 := (by injection e613)
      (try simp only [show (1 : Int).toNat = 1 from rfl, Nat.reduceMul, Nat.reduceEqDiff, Go.Addr.add, ↓reduceIte] at hx613_0)
      have qi613 : (1 < t601.length) = True := eq_true (by omega)
      (try rw [show ((1 : Int)).toNat = 1 from rfl] at hx613_0)
      replace p613 := eq_true p613; replace q613 := eq_true q613; have p614 : 0 ≤ (t600 : Int) := oD; have q614 : t600 < (l2.length : Int) := oD; obtain ⟨ad614, e614, hx614_0⟩ := Kd.at_int HR2.out t600 p614 q614; have hw614_0 := hx614_0; obtain rfl : ad610 = ad614 := (by injection e614); replace hx614_0 := (HB.out.cell (World.block_lt_of_cell? w _ hx614_0)).trans hx614_0; replace p614 := eq_true p614; replace q614 := eq_true q614
      refine start_ (n := 36) (S := fun w' => w'.cell? ad607 = some (.int .i64 (rd t604 0)) ∧ w'.cell? (ad608.add (t600).toNat) = some (.int .i64 (rd l1 t600)) ∧ w'.cell? ad609 = some (.int .i64 (rd t601 0)) ∧ w'.cell? (ad610.add (t600).toNat) = some (.int .i64 (rd l2 t600)) ∧ w'.cell? ⟨ad607.block, ad607.off + 1, none⟩ = some (.int .i64 (rd t604 1)) ∧ w'.cell? (ad608.add (t600).toNat) = some (.int .i64 (rd l1 t600)) ∧ w'.cell? ⟨ad609.block, ad609.off + 1, none⟩ = some (.int .i64 (rd t601 1)) ∧ w'.cell? (ad610.add (t600).toNat) = some (.int .i64 (rd l2 t600))) (ds := []) #[false, false, false, false, false, false, false, false, false, false, false, false, false, false, false, false, false, false, false, false, false, false, false, false, false, false, false, false, false, false, false, false, false, false, false, false] (by kernel_rfl) rfl rfl ⟨hx607_0, ((HB.out.cell (World.block_lt_of_cell? w _ hw608_0)).trans hw608_0), hx609_0, ((HB.out.cell (World.block_lt_of_cell? w _ hw610_0)).trans hw610_0), hx611_0, ((HB.out.cell (World.block_lt_of_cell? w _ hw612_0)).trans hw612_0), hx613_0, ((HB.out.cell (World.block_lt_of_cell? w _ hw614_0)).trans hw614_0)⟩ (fun hHeld => ?_); refine with_tabW spec_ConicBack.tab6 spec_ConicBack.bits6 (fun HT_ HW_ => ?_)
      generalize w23.drew = w24 at HO603 HO606 HB hx607_0 hx608_0 hx609_0 hx610_0 hx611_0 hx612_0 hx613_0 hx614_0 hHeld ⊢
      refine pure_ (i := 0) (N := some 32) (v := ?_) (a' := ?_) #[true, false, false, false, false, false, false, false, false, false, false, false, false, false, false, false, false, false, false, false, false, false, false, false, false, false, false, false, false, false, false, false, false, false, false, false] rfl rfl (any_of HT_.out (by kernel_rfl)) (fun _ _ _ h => h) (Or.inl ⟨by rfl, ?_⟩) ?_ ?_
      rotate_left
      · intro w'
        go_simp
        with_reducible rfl
      rotate_left
      · simp only [Act.put, List.setIfInBounds_toArray, List.set_cons_zero, List.set_cons_succ, i64_w, i32_w]
        rfl
      refine pure_ (i := 1) (N := some 33) (v := ?_) (a' := ?_) #[true, true, false, false, false, false, false, false, false, false, false, false, false, false, false, false, false, false, false, false, false, false, false, false, false, false, false, false, false, false, false, false, false, false, false, false] rfl rfl (any_of HT_.out (by kernel_rfl)) (fun _ _ _ h => h) (Or.inl ⟨by rfl, ?_⟩) ?_ ?_
      rotate_left
      · intro w'
        go_simp
        with_reducible rfl
      rotate_left
      · simp only [Act.put, List.setIfInBounds_toArray, List.set_cons_zero, List.set_cons_succ, i64_w, i32_w]
        rfl
      refine pure_ (i := 3) (N := some 35) (v := ?_) (a' := ?_) #[true, true, false, true, false, false, false, false, false, false, false, false, false, false, false, false, false, false, false, false, false, false, false, false, false, false, false, false, false, false, false, false, false, false, false, false] rfl rfl (any_of HT_.out (by kernel_rfl)) (fun _ _ _ h => h) (Or.inl ⟨by rfl, ?_⟩) ?_ ?_
      rotate_left
      · intro w'
        go_simp
        with_reducible rfl
      rotate_left
      · simp only [Act.put, List.setIfInBounds_toArray, List.set_cons_zero, List.set_cons_succ, i64_w, i32_w]
        rfl
      refine pure_ (i := 4) (N := some 36) (v := ?_) (a' := ?_) #[true, true, false, true, true, false, false, false, false, false, false, false, false, false, false, false, false, false, false, false, false, false, false, false, false, false, false, false, false, false, false, false, false, false, false, false] rfl rfl (any_of HT_.out (by kernel_rfl)) (fun _ _ _ h => h) (Or.inl ⟨by rfl, ?_⟩) ?_ ?_
      rotate_left
      · intro w'
        go_simp
        with_reducible rfl
      rotate_left
      · simp only [Act.put, List.setIfInBounds_toArray, List.set_cons_zero, List.set_cons_succ, i64_w, i32_w]
        rfl
      refine pure_ (i := 5) (N := some 37) (v := ?_) (a' := ?_) #[true, true, false, true, true, true, false, false, false, false, false, false, false, false, false, false, false, false, false, false, false, false, false, false, false, false, false, false, false, false, false, false, false, false, false, false] rfl rfl (any_of HT_.out (by kernel_rfl)) (fun _ _ _ h => h) (Or.inl ⟨by rfl, ?_⟩) ?_ ?_
      rotate_left
      · intro w'
        go_simp
        with_reducible rfl
      rotate_left
      · simp only [Act.put, List.setIfInBounds_toArray, List.set_cons_zero, List.set_cons_succ, i64_w, i32_w]
        rfl
      refine pure_ (i := 8) (N := some 40) (v := ?_) (a' := ?_) #[true, true, false, true, true, true, false, false, true, false, false, false, false, false, false, false, false, false, false, false, false, false, false, false, false, false, false, false, false, false, false, false, false, false, false, false] rfl rfl (any_of HT_.out (by kernel_rfl)) (fun _ _ _ h => h) (Or.inl ⟨by rfl, ?_⟩) ?_ ?_
      rotate_left
      · intro w'
        go_simp
        with_reducible rfl
      rotate_left
      · simp only [Act.put, List.setIfInBounds_toArray, List.set_cons_zero, List.set_cons_succ, i64_w, i32_w]
        rfl
      refine pure_ (i := 9) (N := some 41) (v := ?_) (a' := ?_) #[true, true, false, true, true, true, false, false, true, true, false, false, false, false, false, false, false, false, false, false, false, false, false, false, false, false, false, false, false, false, false, false, false, false, false, false] rfl rfl (any_of HT_.out (by kernel_rfl)) (fun _ _ _ h => h) (Or.inl ⟨by rfl, ?_⟩) ?_ ?_
      rotate_left
      · intro w'
        go_simp
        with_reducible rfl
      rotate_left
      · simp only [Act.put, List.setIfInBounds_toArray, List.set_cons_zero, List.set_cons_succ, i64_w, i32_w]
        rfl
      refine pure_ (i := 11) (N := some 43) (v := ?_) (a' := ?_) #[true, true, false, true, true, true, false, false, true, true, false, true, false, false, false, false, false, false, false, false, false, false, false, false, false, false, false, false, false, false, false, false, false, false, false, false] rfl rfl (any_of HT_.out (by kernel_rfl)) (fun _ _ _ h => h) (Or.inl ⟨by rfl, ?_⟩) ?_ ?_
      rotate_left
      · intro w'
        go_simp
        with_reducible rfl
      rotate_left
      · simp only [Act.put, List.setIfInBounds_toArray, List.set_cons_zero, List.set_cons_succ, i64_w, i32_w]
        rfl
      refine pure_ (i := 12) (N := some 44) (v := ?_) (a' := ?_) #[true, true, false, true, true, true, false, false, true, true, false, true, true, false, false, false, false, false, false, false, false, false, false, false, false, false, false, false, false, false, false, false, false, false, false, false] rfl rfl (any_of HT_.out (by kernel_rfl)) (fun _ _ _ h => h) (Or.inl ⟨by rfl, ?_⟩) ?_ ?_
      rotate_left
      · intro w'
        go_simp
        with_reducible rfl
      rotate_left
      · simp only [Act.put, List.setIfInBounds_toArray, List.set_cons_zero, List.set_cons_succ, i64_w, i32_w]
        rfl
      refine pure_ (i := 13) (N := some 45) (v := ?_) (a' := ?_) #[true, true, false, true, true, true, false, false, true, true, false, true, true, true, false, false, false, false, false, false, false, false, false, false, false, false, false, false, false, false, false, false, false, false, false, false] rfl rfl (any_of HT_.out (by kernel_rfl)) (fun _ _ _ h => h) (Or.inl ⟨by rfl, ?_⟩) ?_ ?_
      rotate_left
      · intro w'
        go_simp
        with_reducible rfl
      rotate_left
      · simp only [Act.put, List.setIfInBounds_toArray, List.set_cons_zero, List.set_cons_succ, i64_w, i32_w]
        rfl
      refine pure_ (i := 17) (N := some 49) (v := ?_) (a' := ?_) #[true, true, false, true, true, true, false, false, true, true, false, true, true, true, false, false, false, true, false, false, false, false, false, false, false, false, false, false, false, false, false, false, false, false, false, false] rfl rfl (any_of HT_.out (by kernel_rfl)) (fun _ _ _ h => h) (Or.inl ⟨by rfl, ?_⟩) ?_ ?_
      rotate_left
      · intro w'
        go_simp
        with_reducible rfl
      rotate_left
      · simp only [Act.put, List.setIfInBounds_toArray, List.set_cons_zero, List.set_cons_succ, i64_w, i32_w]
        rfl
      refine pure_ (i := 18) (N := some 50) (v := ?_) (a' := ?_) #[true, true, false, true, true, true, false, false, true, true, false, true, true, true, false, false, false, true, true, false, false, false, false, false, false, false, false, false, false, false, false, false, false, false, false, false] rfl rfl (any_of HT_.out (by kernel_rfl)) (fun _ _ _ h => h) (Or.inl ⟨by rfl, ?_⟩) ?_ ?_
      rotate_left
      · intro w'
        go_simp
        with_reducible rfl
      rotate_left
      · simp only [Act.put, List.setIfInBounds_toArray, List.set_cons_zero, List.set_cons_succ, i64_w, i32_w]
        rfl
      refine pure_ (i := 20) (N := some 52) (v := ?_) (a' := ?_) #[true, true, false, true, true, true, false, false, true, true, false, true, true, true, false, false, false, true, true, false, true, false, false, false, false, false, false, false, false, false, false, false, false, false, false, false] rfl rfl (any_of HT_.out (by kernel_rfl)) (fun _ _ _ h => h) (Or.inl ⟨by rfl, ?_⟩) ?_ ?_
      rotate_left
      · intro w'
        go_simp
        with_reducible rfl
      rotate_left
      · simp only [Act.put, List.setIfInBounds_toArray, List.set_cons_zero, List.set_cons_succ, i64_w, i32_w]
        rfl
      refine pure_ (i := 21) (N := some 53) (v := ?_) (a' := ?_) #[true, true, false, true, true, true, false, false, true, true, false, true, true, true, false, false, false, true, true, false, true, true, false, false, false, false, false, false, false, false, false, false, false, false, false, false] rfl rfl (any_of HT_.out (by kernel_rfl)) (fun _ _ _ h => h) (Or.inl ⟨by rfl, ?_⟩) ?_ ?_
      rotate_left
      · intro w'
        go_simp
        with_reducible rfl
      rotate_left
      · simp only [Act.put, List.setIfInBounds_toArray, List.set_cons_zero, List.set_cons_succ, i64_w, i32_w]
        rfl
      refine pure_ (i := 22) (N := some 54) (v := ?_) (a' := ?_) #[true, true, false, true, true, true, false, false, true, true, false, true, true, true, false, false, false, true, true, false, true, true, true, false, false, false, false, false, false, false, false, false, false, false, false, false] rfl rfl (any_of HT_.out (by kernel_rfl)) (fun _ _ _ h => h) (Or.inl ⟨by rfl, ?_⟩) ?_ ?_
      rotate_left
      · intro w'
        go_simp
        with_reducible rfl
      rotate_left
      · simp only [Act.put, List.setIfInBounds_toArray, List.set_cons_zero, List.set_cons_succ, i64_w, i32_w]
        rfl
      refine pure_ (i := 25) (N := some 57) (v := ?_) (a' := ?_) #[true, true, false, true, true, true, false, false, true, true, false, true, true, true, false, false, false, true, true, false, true, true, true, false, false, true, false, false, false, false, false, false, false, false, false, false] rfl rfl (any_of HT_.out (by kernel_rfl)) (fun _ _ _ h => h) (Or.inl ⟨by rfl, ?_⟩) ?_ ?_
      rotate_left
      · intro w'
        go_simp
        with_reducible rfl
      rotate_left
      · simp only [Act.put, List.setIfInBounds_toArray, List.set_cons_zero, List.set_cons_succ, i64_w, i32_w]
        rfl
      refine pure_ (i := 26) (N := some 58) (v := ?_) (a' := ?_) #[true, true, false, true, true, true, false, false, true, true, false, true, true, true, false, false, false, true, true, false, true, true, true, false, false, true, true, false, false, false, false, false, false, false, false, false] rfl rfl (any_of HT_.out (by kernel_rfl)) (fun _ _ _ h => h) (Or.inl ⟨by rfl, ?_⟩) ?_ ?_
      rotate_left
      · intro w'
        go_simp
        with_reducible rfl
      rotate_left
      · simp only [Act.put, List.setIfInBounds_toArray, List.set_cons_zero, List.set_cons_succ, i64_w, i32_w]
        rfl
      refine pure_ (i := 28) (N := some 60) (v := ?_) (a' := ?_) #[true, true, false, true, true, true, false, false, true, true, false, true, true, true, false, false, false, true, true, false, true, true, true, false, false, true, true, false, true, false, false, false, false, false, false, false] rfl rfl (any_of HT_.out (by kernel_rfl)) (fun _ _ _ h => h) (Or.inl ⟨by rfl, ?_⟩) ?_ ?_
      rotate_left
      · intro w'
        go_simp
        with_reducible rfl
      rotate_left
      · simp only [Act.put, List.setIfInBounds_toArray, List.set_cons_zero, List.set_cons_succ, i64_w, i32_w]
        rfl
      refine pure_ (i := 29) (N := some 61) (v := ?_) (a' := ?_) #[true, true, false, true, true, true, false, false, true, true, false, true, true, true, false, false, false, true, true, false, true, true, true, false, false, true, true, false, true, true, false, false, false, false, false, false] rfl rfl (any_of HT_.out (by kernel_rfl)) (fun _ _ _ h => h) (Or.inl ⟨by rfl, ?_⟩) ?_ ?_
      rotate_left
      · intro w'
        go_simp
        with_reducible rfl
      rotate_left
      · simp only [Act.put, List.setIfInBounds_toArray, List.set_cons_zero, List.set_cons_succ, i64_w, i32_w]
        rfl
      refine pure_ (i := 30) (N := some 62) (v := ?_) (a' := ?_) #[true, true, false, true, true, true, false, false, true, true, false, true, true, true, false, false, false, true, true, false, true, true, true, false, false, true, true, false, true, true, true, false, false, false, false, false] rfl rfl (any_of HT_.out (by kernel_rfl)) (fun _ _ _ h => h) (Or.inl ⟨by rfl, ?_⟩) ?_ ?_
      rotate_left
      · intro w'
        go_simp
        with_reducible rfl
      rotate_left
      · simp only [Act.put, List.setIfInBounds_toArray, List.set_cons_zero, List.set_cons_succ, i64_w, i32_w]
        rfl
      refine take_ (i := 2) (N := some 34) (v := ?_) (a' := ?_) #[true, true, true, true, true, true, false, false, true, true, false, true, true, true, false, false, false, true, true, false, true, true, true, false, false, true, true, false, true, true, true, false, false, false, false, false] rfl rfl (take_ofW HT_.out HW_.out (by kernel_rfl)) (fun _ _ _ h => h) (Or.inl ⟨by rfl, ?_⟩) hHeld ?_ ?_
      rotate_left
      · rintro w' ⟨s0, s1, s2, s3, s4, s5, s6, s7⟩
        go_simp
        with_reducible rfl
      rotate_left
      · simp only [Act.put, List.setIfInBounds_toArray, List.set_cons_zero, List.set_cons_succ, i64_w, i32_w]
        rfl
      refine take_ (i := 6) (N := some 38) (v := ?_) (a' := ?_) #[true, true, true, true, true, true, true, false, true, true, false, true, true, true, false, false, false, true, true, false, true, true, true, false, false, true, true, false, true, true, true, false, false, false, false, false] rfl rfl (take_ofW HT_.out HW_.out (by kernel_rfl)) (fun _ _ _ h => h) (Or.inl ⟨by rfl, ?_⟩) hHeld ?_ ?_
      rotate_left
      · rintro w' ⟨s0, s1, s2, s3, s4, s5, s6, s7⟩
        go_simp
        with_reducible rfl
      rotate_left
      · simp only [Act.put, List.setIfInBounds_toArray, List.set_cons_zero, List.set_cons_succ, i64_w, i32_w]
        rfl
      refine pure_ (i := 7) (N := some 39) (v := ?_) (a' := ?_) #[true, true, true, true, true, true, true, true, true, true, false, true, true, true, false, false, false, true, true, false, true, true, true, false, false, true, true, false, true, true, true, false, false, false, false, false] rfl rfl (any_of HT_.out (by kernel_rfl)) (fun _ _ _ h => h) (Or.inl ⟨by rfl, ?_⟩) ?_ ?_
      rotate_left
      · intro w'
        go_simp
        with_reducible rfl
      rotate_left
      · simp only [Act.put, List.setIfInBounds_toArray, List.set_cons_zero, List.set_cons_succ, i64_w, i32_w]
        rfl
      refine take_ (i := 10) (N := some 42) (v := ?_) (a' := ?_) #[true, true, true, true, true, true, true, true, true, true, true, true, true, true, false, false, false, true, true, false, true, true, true, false, false, true, true, false, true, true, true, false, false, false, false, false] rfl rfl (take_ofW HT_.out HW_.out (by kernel_rfl)) (fun _ _ _ h => h) (Or.inl ⟨by rfl, ?_⟩) hHeld ?_ ?_
      rotate_left
      · rintro w' ⟨s0, s1, s2, s3, s4, s5, s6, s7⟩
        go_simp
        with_reducible rfl
      rotate_left
      · simp only [Act.put, List.setIfInBounds_toArray, List.set_cons_zero, List.set_cons_succ, i64_w, i32_w]
        rfl
      refine take_ (i := 14) (N := some 46) (v := ?_) (a' := ?_) #[true, true, true, true, true, true, true, true, true, true, true, true, true, true, true, false, false, true, true, false, true, true, true, false, false, true, true, false, true, true, true, false, false, false, false, false] rfl rfl (take_ofW HT_.out HW_.out (by kernel_rfl)) (fun _ _ _ h => h) (Or.inl ⟨by rfl, ?_⟩) hHeld ?_ ?_
      rotate_left
      · rintro w' ⟨s0, s1, s2, s3, s4, s5, s6, s7⟩
        go_simp
        with_reducible rfl
      rotate_left
      · simp only [Act.put, List.setIfInBounds_toArray, List.set_cons_zero, List.set_cons_succ, i64_w, i32_w]
        rfl
      refine pure_ (i := 15) (N := some 47) (v := ?_) (a' := ?_) #[true, true, true, true, true, true, true, true, true, true, true, true, true, true, true, true, false, true, true, false, true, true, true, false, false, true, true, false, true, true, true, false, false, false, false, false] rfl rfl (any_of HT_.out (by kernel_rfl)) (fun _ _ _ h => h) (Or.inl ⟨by rfl, ?_⟩) ?_ ?_
      rotate_left
      · intro w'
        go_simp
        with_reducible rfl
      rotate_left
      · simp only [Act.put, List.setIfInBounds_toArray, List.set_cons_zero, List.set_cons_succ, i64_w, i32_w]
        rfl
      refine pure_ (i := 16) (N := some 48) (v := ?_) (a' := ?_) #[true, true, true, true, true, true, true, true, true, true, true, true, true, true, true, true, true, true, true, false, true, true, true, false, false, true, true, false, true, true, true, false, false, false, false, false] rfl rfl (any_of HT_.out (by kernel_rfl)) (fun _ _ _ h => h) (Or.inl ⟨by rfl, ?_⟩) ?_ ?_
      rotate_left
      · intro w'
        go_simp
        with_reducible rfl
      rotate_left
      · simp only [Act.put, List.setIfInBounds_toArray, List.set_cons_zero, List.set_cons_succ, i64_w, i32_w]
        rfl
      refine take_ (i := 19) (N := some 51) (v := ?_) (a' := ?_) #[true, true, true, true, true, true, true, true, true, true, true, true, true, true, true, true, true, true, true, true, true, true, true, false, false, true, true, false, true, true, true, false, false, false, false, false] rfl rfl (take_ofW HT_.out HW_.out (by kernel_rfl)) (fun _ _ _ h => h) (Or.inl ⟨by rfl, ?_⟩) hHeld ?_ ?_
      rotate_left
      · rintro w' ⟨s0, s1, s2, s3, s4, s5, s6, s7⟩
        go_simp
        with_reducible rfl
      rotate_left
      · simp only [Act.put, List.setIfInBounds_toArray, List.set_cons_zero, List.set_cons_succ, i64_w, i32_w]
        rfl
      refine take_ (i := 23) (N := some 55) (v := ?_) (a' := ?_) #[true, true, true, true, true, true, true, true, true, true, true, true, true, true, true, true, true, true, true, true, true, true, true, true, false, true, true, false, true, true, true, false, false, false, false, false] rfl rfl (take_ofW HT_.out HW_.out (by kernel_rfl)) (fun _ _ _ h => h) (Or.inl ⟨by rfl, ?_⟩) hHeld ?_ ?_
      rotate_left
      · rintro w' ⟨s0, s1, s2, s3, s4, s5, s6, s7⟩
        go_simp
        with_reducible rfl
      rotate_left
      · simp only [Act.put, List.setIfInBounds_toArray, List.set_cons_zero, List.set_cons_succ, i64_w, i32_w]
        rfl
      refine pure_ (i := 24) (N := some 56) (v := ?_) (a' := ?_) #[true, true, true, true, true, true, true, true, true, true, true, true, true, true, true, true, true, true, true, true, true, true, true, true, true, true, true, false, true, true, true, false, false, false, false, false] rfl rfl (any_of HT_.out (by kernel_rfl)) (fun _ _ _ h => h) (Or.inl ⟨by rfl, ?_⟩) ?_ ?_
      rotate_left
      · intro w'
        go_simp
        with_reducible rfl
      rotate_left
      · simp only [Act.put, List.setIfInBounds_toArray, List.set_cons_zero, List.set_cons_succ, i64_w, i32_w]
        rfl
      refine take_ (i := 27) (N := some 59) (v := ?_) (a' := ?_) #[true, true, true, true, true, true, true, true, true, true, true, true, true, true, true, true, true, true, true, true, true, true, true, true, true, true, true, true, true, true, true, false, false, false, false, false] rfl rfl (take_ofW HT_.out HW_.out (by kernel_rfl)) (fun _ _ _ h => h) (Or.inl ⟨by rfl, ?_⟩) hHeld ?_ ?_
      rotate_left
      · rintro w' ⟨s0, s1, s2, s3, s4, s5, s6, s7⟩
        go_simp
        with_reducible rfl
      rotate_left
      · simp only [Act.put, List.setIfInBounds_toArray, List.set_cons_zero, List.set_cons_succ, i64_w, i32_w]
        rfl
      refine take_ (i := 31) (N := some 63) (v := ?_) (a' := ?_) #[true, true, true, true, true, true, true, true, true, true, true, true, true, true, true, true, true, true, true, true, true, true, true, true, true, true, true, true, true, true, true, true, false, false, false, false] rfl rfl (take_ofW HT_.out HW_.out (by kernel_rfl)) (fun _ _ _ h => h) (Or.inl ⟨by rfl, ?_⟩) hHeld ?_ ?_
      rotate_left
      · rintro w' ⟨s0, s1, s2, s3, s4, s5, s6, s7⟩
        go_simp
        with_reducible rfl
      rotate_left
      · simp only [Act.put, List.setIfInBounds_toArray, List.set_cons_zero, List.set_cons_succ, i64_w, i32_w]
        rfl
      refine pure_ (i := 32) (N := some 64) (v := ?_) (a' := ?_) #[true, true, true, true, true, true, true, true, true, true, true, true, true, true, true, true, true, true, true, true, true, true, true, true, true, true, true, true, true, true, true, true, true, false, false, false] rfl rfl (any_of HT_.out (by kernel_rfl)) (fun _ _ _ h => h) (Or.inl ⟨by rfl, ?_⟩) ?_ ?_
      rotate_left
      · intro w'
        go_simp
        with_reducible rfl
      rotate_left
      · simp only [Act.put, List.setIfInBounds_toArray, List.set_cons_zero, List.set_cons_succ, i64_w, i32_w]
        rfl
      refine pure_ (i := 33) (N := some 65) (v := ?_) (a' := ?_) #[true, true, true, true, true, true, true, true, true, true, true, true, true, true, true, true, true, true, true, true, true, true, true, true, true, true, true, true, true, true, true, true, true, true, false, false] rfl rfl (any_of HT_.out (by kernel_rfl)) (fun _ _ _ h => h) (Or.inl ⟨by rfl, ?_⟩) ?_ ?_
      rotate_left
      · intro w'
        go_simp
        with_reducible rfl
      rotate_left
      · simp only [Act.put, List.setIfInBounds_toArray, List.set_cons_zero, List.set_cons_succ, i64_w, i32_w]
        rfl
      refine one_ (i := 34) (N := some 66) #[true, true, true, true, true, true, true, true, true, true, true, true, true, true, true, true, true, true, true, true, true, true, true, true, true, true, true, true, true, true, true, true, true, true, true, false] rfl rfl (one_of HT_.out (by kernel_rfl)) (by decide) (fun K hK => ?_)
      refine Kd.R_lit_step (Kd.int .i64) _ 3 ?hg (N := 66) ?hd (xs := ([wrap64 ((wrap64 ((rd t604 0) * (rd l1 t600))) - (wrap64 ((rd t601 0) * (rd l2 t600)))), wrap64 ((wrap64 ((rd t604 1) * (rd l1 t600))) - (wrap64 ((rd t601 1) * (rd l2 t600))))] : List Int)) (inner := [.int .i64 (wrap64 ((wrap64 ((rd t604 0) * (rd l1 t600))) - (wrap64 ((rd t601 0) * (rd l2 t600))))), .int .i64 (wrap64 ((wrap64 ((rd t604 1) * (rd l1 t600))) - (wrap64 ((rd t601 1) * (rd l2 t600)))))]) (ok := fun _ => True) (okp := fun _ => True) ?hr ?hp (fun _ hk => hk) trivial (Below.refl _ _) (Nat.le_refl _) (by simp) ?_; (case hd => rfl); (case hg => rfl); (case hr => first | (go_simp; done) | (go_simp; rfl)); (case hp => exact (Reps.one (show Kd.M (Kd.int .i64) _ _ _ (wrap64 ((wrap64 ((rd t604 0) * (rd l1 t600))) - (wrap64 ((rd t601 0) * (rd l2 t600))))) [.int .i64 (wrap64 ((wrap64 ((rd t604 0) * (rd l1 t600))) - (wrap64 ((rd t601 0) * (rd l2 t600)))))] from rfl) (Reps.one (show Kd.M (Kd.int .i64) _ _ _ (wrap64 ((wrap64 ((rd t604 1) * (rd l1 t600))) - (wrap64 ((rd t601 1) * (rd l2 t600))))) [.int .i64 (wrap64 ((wrap64 ((rd t604 1) * (rd l1 t600))) - (wrap64 ((rd t601 1) * (rd l2 t600)))))] from rfl) (Reps.none _ _))))
      intro v616 w27 ho28 hb hg_ hnew_; have HS0_ := (hb.cell (World.block_lt_of_cell? _ _ (hHeld.1))).trans (hHeld.1); have HS2_ := (hb.cell (World.block_lt_of_cell? _ _ (hHeld.2.2.1))).trans (hHeld.2.2.1); have HS4_ := (hb.cell (World.block_lt_of_cell? _ _ (hHeld.2.2.2.2.1))).trans (hHeld.2.2.2.2.1); have HS6_ := (hb.cell (World.block_lt_of_cell? _ _ (hHeld.2.2.2.2.2.2.1))).trans (hHeld.2.2.2.2.2.2.1); clear hg_ hnew_
      (first | rw [← Ny615.out] at ho28 | (simp only [Int.reduceToNat] at ho28; rw [← Ny615.out] at ho28))
      have HO617 := Aside0.mk (Kd.R_lower (Kd.R_new' (Kd.R_new' ho28 (Kd.R_lt (U HO603.out))) (Kd.R_lt (U HO606.out))) (below_size BU)); replace HO603 := Aside0.mk (Kd.R_elder' (U HO603.out) (Kd.R_base ho28) hb); replace HO606 := Aside0.mk (Kd.R_elder' (U HO606.out) (Kd.R_base ho28) hb); replace HB := BS hb; clear hb ho28
      refine hK.out _ _ ⟨HS0_, ((HB.out.cell (World.block_lt_of_cell? w _ hw608_0)).trans hw608_0), HS2_, ((HB.out.cell (World.block_lt_of_cell? w _ hw610_0)).trans hw610_0), HS4_, ((HB.out.cell (World.block_lt_of_cell? w _ hw612_0)).trans hw612_0), HS6_, ((HB.out.cell (World.block_lt_of_cell? w _ hw614_0)).trans hw614_0)⟩ (fun hHeld => ?_)
      clear hK K
      refine norm_ (a' := ?_) ?_ ?_
      rotate_left
      · show Act.put _ (some 66) _ = _
        simp only [Act.put, List.setIfInBounds_toArray, List.set_cons_zero, List.set_cons_succ, i64_w, i32_w]
        rfl
      refine pure_ (i := 35) (N := some 12) (v := ?_) (a' := ?_) #[true, true, true, true, true, true, true, true, true, true, true, true, true, true, true, true, true, true, true, true, true, true, true, true, true, true, true, true, true, true, true, true, true, true, true, true] rfl rfl (any_of HT_.out (by kernel_rfl)) (fun _ _ _ h => h) (Or.inl ⟨by rfl, ?_⟩) ?_ ?_
      rotate_left
      · intro w'
        go_simp
        with_reducible rfl
      rotate_left
      · simp only [Act.put, List.setIfInBounds_toArray, List.set_cons_zero, List.set_cons_succ, i64_w, i32_w]
        rfl
      refine done_ (done_of HT_.out (by kernel_rfl)) ?_
      go_upto_region 7 with (fail)
      go_cut [76] (fun v76 wc => ∃ (kq : Nat) (x76_20 : Bool), v76 = .bool x76_20 ∧ Aside0 (spec_ConicBack.j1 kq l0 t600 t601 y615 x76_20 = some (r1, r2, r3)) ∧ Aside0 (kq ≤ kj3) ∧ Aside0 (Kd.R (Kd.int .i64) 3 wc w.heap.size (fun k_ => some k_ ≠ (v616 : Value).ownBlock) (.slice (some ad609) t601.length co26) t601) ∧ Aside0 (Kd.R (Kd.int .i64) 3 wc w.heap.size (fun k_ => some k_ ≠ ((.slice (some ad609) t601.length co26) : Value).ownBlock) v616 y615) ∧ Aside0 (Below w.heap.size w wc))
      case first =>
        have H := HC21.out; clear HC21; obtain ⟨c29, H⟩ := ifN H; have c29b0 : decide (0 < (y615.length : Int)) = true := decide_eq_true c29; have c29b1 : decide (0 < y615.length) = true := decide_eq_true (by omega); clear c29
        (first | rw [c29b0] | (simp only [i64_w, i32_w]; rw [c29b0]) | skip)
        by_cases c30 : (rd y615 0) = 0
        · rw [if_pos c30] at H
          have c30b0 : ((rd y615 0) == 0) = true := beq_iff_eq.mpr c30; have c30b1 : ((rd y615 0) != 0) = false := bne_eq_false_iff_eq.mpr c30; clear c30; obtain ⟨c31, H⟩ := ifN H; have c31b0 : decide (1 < (y615.length : Int)) = true := decide_eq_true c31; have c31b1 : decide (1 < y615.length) = true := decide_eq_true (by omega); clear c31; have H' := Aside0.mk H; clear H; obtain ⟨Ao32, co32, eo32⟩ := Kd.R_slice HO617.out; subst eo32; have p618 : 0 ≤ (0 : Int) := (by omega); have q618 : 0 < (y615.length : Int) := oD; obtain ⟨ad618, e618, hx618_0⟩ := Kd.at_int (Kd.R_reads' HO617.out).2.2 0 p618 q618; cases e618; have qi618 : (0 < y615.length) = True := eq_true (by omega)
          (try rw [show ((0 : Int)).toNat = 0 from rfl] at hx618_0)
          (try rw [Addr.add_zero'] at hx618_0)
          replace p618 := eq_true p618; replace q618 := eq_true q618; have p619 : 0 ≤ (1 : Int) := (by omega); have q619 : 1 < (y615.length : Int) := oD; obtain ⟨ad619, e619, hx619_0⟩ := Kd.at_int (Kd.R_reads' HO617.out).2.2 1 p619 q619; obtain rfl : ad618 = ad619 := (by injection e619)
          (try simp only [show (1 : Int).toNat = 1 from rfl, Nat.reduceMul, Nat.reduceEqDiff, Go.Addr.add, ↓reduceIte] at hx619_0)
          have qi619 : (1 < y615.length) = True := eq_true (by omega)
          (try rw [show ((1 : Int)).toNat = 1 from rfl] at hx619_0)
          replace p619 := eq_true p619; replace q619 := eq_true q619
          go_wp2
          go_meet
          case rel => exact ⟨_, (((rd y615 1) == 0)), sR, H', ⟨by have := HJ3.out; first | omega | exact Nat.le_refl _⟩, ⟨Kd.RM HO603.out (fun _ hk => hk.2)⟩, ⟨Kd.RM HO617.out (fun _ hk => hk.1.2)⟩, ⟨BU⟩⟩
        rw [if_neg c30] at H; have c30b0 : ((rd y615 0) == 0) = false := beq_eq_false_iff_ne.mpr c30; have c30b1 : ((rd y615 0) != 0) = true := bne_iff_ne.mpr c30; have H' := Aside0.mk H; clear H; obtain ⟨Ao33, co33, eo33⟩ := Kd.R_slice HO617.out; subst eo33; have p618 : 0 ≤ (0 : Int) := (by omega); have q618 : 0 < (y615.length : Int) := oD; obtain ⟨ad618, e618, hx618_0⟩ := Kd.at_int (Kd.R_reads' HO617.out).2.2 0 p618 q618; cases e618; have qi618 : (0 < y615.length) = True := eq_true (by omega)
        (try rw [show ((0 : Int)).toNat = 0 from rfl] at hx618_0)
        (try rw [Addr.add_zero'] at hx618_0)
        replace p618 := eq_true p618; replace q618 := eq_true q618
        go_wp2
        go_meet
        case rel => exact ⟨_, (false), sR, H', ⟨by have := HJ3.out; first | omega | exact Nat.le_refl _⟩, ⟨Kd.RM HO603.out (fun _ hk => hk.2)⟩, ⟨Kd.RM HO617.out (fun _ hk => hk.1.2)⟩, ⟨BU⟩⟩
      case rest =>
        clear HC21; (try clear c1); (try clear c2); (try clear c10); (try clear c14); (try clear c14b0); (try clear c14b1); (try clear c15); (try clear c15b0); (try clear c16); (try clear c16b0); (try clear c17); (try clear c17b0); (try clear c17b1); (try clear c18); (try clear c18b0); (try clear c19); (try clear c19b0); (try clear c19b1); (try clear c20); (try clear c20b0); (try clear c20b1); (try clear hx607_0); (try clear hx608_0); (try clear hx609_0); (try clear hx610_0); (try clear hx611_0); (try clear hx612_0); (try clear hx613_0); (try clear hx614_0); (try clear p607); (try clear p608); (try clear p609); (try clear p610); (try clear p611); (try clear p612); (try clear p613); (try clear p614); (try clear q607); (try clear q608); (try clear q609); (try clear q610); (try clear q611); (try clear q612); (try clear q613); (try clear q614); obtain ⟨kq, x76_20, rfl, HA, HJ20, HO_10, HO_12, HB⟩ := hcut; cases kq with
        | zero => exact absurd HA.out (by simp [spec_ConicBack.j1])
        | succ kj20 =>
          have H := HA.out; clear HA; simp only [spec_ConicBack.j1] at H
          by_cases c34 : x76_20 = true
          · subst c34
            replace H := ifT H; obtain ⟨t620, A35, H⟩ := bnd H; obtain ⟨c36, H⟩ := ifN H; have c36b0 : decide (1 < (t620.length : Int)) = true := decide_eq_true c36; have c36b1 : decide (1 < t620.length) = true := decide_eq_true (by omega); clear c36; obtain ⟨c37, H⟩ := ifN H; have c37b0 : decide (1 < (t601.length : Int)) = true := decide_eq_true c37; have c37b1 : decide (1 < t601.length) = true := decide_eq_true (by omega); clear c37; obtain ⟨c38, H⟩ := ifN H; have c38b0 : decide (0 < (t620.length : Int)) = true := decide_eq_true c38; have c38b1 : decide (0 < t620.length) = true := decide_eq_true (by omega); clear c38; obtain ⟨c39, H⟩ := ifN H; have c39b0 : decide (0 < (t601.length : Int)) = true := decide_eq_true c39; have c39b1 : decide (0 < t601.length) = true := decide_eq_true (by omega); clear c39; obtain ⟨y627, hy627⟩ : ∃ y_ : List Int, y_ = (([wrap64 ((rd t620 1) * (rd t601 1)), wrap64 (-(wrap64 ((rd t620 0) * (rd t601 0))))] : List Int)) := ⟨_, rfl⟩
            replace H : ((spec_l5Plain.f kj20 y627).bind fun t630 => (if 0 < (t630.length : Int) then (if 1 < (t630.length : Int) then (some (rd t630 0, rd t630 1, true)) else (none)) else (none))) = some (r1, r2, r3) := rH hy627 H
            have Ny627 := Aside0.mk hy627; clear hy627; obtain ⟨t630, A40, H⟩ := bnd H; obtain ⟨c41, H⟩ := ifN H; have c41b0 : decide (0 < (t630.length : Int)) = true := decide_eq_true c41; have c41b1 : decide (0 < t630.length) = true := decide_eq_true (by omega); clear c41; obtain ⟨c42, H⟩ := ifN H; have c42b0 : decide (1 < (t630.length : Int)) = true := decide_eq_true c42; have c42b1 : decide (1 < t630.length) = true := decide_eq_true (by omega); clear c42; simp only [Option.some.injEq, Prod.mk.injEq] at H; obtain ⟨rfl, rfl, rfl⟩ := H
            try go_wp2_with (first | ((with_reducible refine gate_callee (f := 53) rfl ?_); refine goesK (some 79) Try.func53 #[.slice A0 l0.length c0, .int .i64 t600] ?_; (with_reducible refine (spec_l6kTwo.calls _ _ l0 t600 t620 _ ?side1 ?side2 A35.out).mono ?_); (case side1 => exact U (Kd.C_below HR0.out HB.out)); (case side2 => exact HC0.out); rintro e w43 ⟨v621, rfl, ho0, hb⟩; refine ⟨_, rfl, ?_⟩; have HO622 := Aside0.mk (Kd.R_lower (Kd.R_new' (Kd.R_new' ho0 (Kd.R_lt (U HO_10.out))) (Kd.R_lt (U HO_12.out))) (below_size BU)); replace HO_10 := Aside0.mk (Kd.R_elder' (U HO_10.out) (Kd.R_base ho0) hb); replace HO_12 := Aside0.mk (Kd.R_elder' (U HO_12.out) (Kd.R_base ho0) hb); replace HB := BS hb; (try clear hb); (try clear ho0)))
            replace HO_10 := Aside0.mk (Kd.R_drew HO_10.out); replace HO_12 := Aside0.mk (Kd.R_drew HO_12.out); replace HO622 := Aside0.mk (Kd.R_drew HO622.out); replace HB := Aside0.mk (below_drew1 HB.out); obtain ⟨Ao45, co45, eo45⟩ := Kd.R_slice HO622.out
            (first | subst eo45 | (injection eo45 with f1_ f2_ f3_; have f4_ := f1_.symm; have f5_ := f3_.symm; clear f1_ f2_ f3_; subst f4_; subst f5_))
            have p623 : 0 ≤ (1 : Int) := (by omega); have q623 : 1 < (t620.length : Int) := oD; obtain ⟨ad623, e623, hx623_0⟩ := Kd.at_int (Kd.R_reads' HO622.out).2.2 1 p623 q623; cases e623
            (try simp only [show (1 : Int).toNat = 1 from rfl, Nat.reduceMul, Nat.reduceEqDiff, Go.Addr.add, ↓reduceIte] at hx623_0)
            have qi623 : (1 < t620.length) = True := eq_true (by omega)
            (try rw [show ((1 : Int)).toNat = 1 from rfl] at hx623_0)
            replace p623 := eq_true p623; replace q623 := eq_true q623; have p624 : 0 ≤ (1 : Int) := (by omega); have q624 : 1 < (t601.length : Int) := oD; obtain ⟨ad624, e624, hx624_0⟩ := Kd.at_int (Kd.R_reads' HO_10.out).2.2 1 p624 q624; obtain rfl : ad609 = ad624 := (by injection e624)
            (try simp only [show (1 : Int).toNat = 1 from rfl, Nat.reduceMul, Nat.reduceEqDiff, Go.Addr.add, ↓reduceIte] at hx624_0)
            have qi624 : (1 < t601.length) = True := eq_true (by omega)
            (try rw [show ((1 : Int)).toNat = 1 from rfl] at hx624_0)
            replace p624 := eq_true p624; replace q624 := eq_true q624; have p625 : 0 ≤ (0 : Int) := (by omega); have q625 : 0 < (t620.length : Int) := oD; obtain ⟨ad625, e625, hx625_0⟩ := Kd.at_int (Kd.R_reads' HO622.out).2.2 0 p625 q625; obtain rfl : ad623 = ad625 := (by injection e625); have qi625 : (0 < t620.length) = True := eq_true (by omega)
            (try rw [show ((0 : Int)).toNat = 0 from rfl] at hx625_0)
            (try rw [Addr.add_zero'] at hx625_0)
            replace p625 := eq_true p625; replace q625 := eq_true q625; have p626 : 0 ≤ (0 : Int) := (by omega); have q626 : 0 < (t601.length : Int) := oD; obtain ⟨ad626, e626, hx626_0⟩ := Kd.at_int (Kd.R_reads' HO_10.out).2.2 0 p626 q626; obtain rfl : ad609 = ad626 := (by injection e626); have qi626 : (0 < t601.length) = True := eq_true (by omega)
            (try rw [show ((0 : Int)).toNat = 0 from rfl] at hx626_0)
            (try rw [Addr.add_zero'] at hx626_0)
            replace p626 := eq_true p626; replace q626 := eq_true q626
            refine start_ (n := 17) (S := fun w' => w'.cell? ⟨ad623.block, ad623.off + 1, none⟩ = some (.int .i64 (rd t620 1)) ∧ w'.cell? ⟨ad609.block, ad609.off + 1, none⟩ = some (.int .i64 (rd t601 1)) ∧ w'.cell? ad623 = some (.int .i64 (rd t620 0)) ∧ w'.cell? ad609 = some (.int .i64 (rd t601 0))) (ds := []) #[false, false, false, false, false, false, false, false, false, false, false, false, false, false, false, false, false] (by kernel_rfl) rfl rfl ⟨hx623_0, hx624_0, hx625_0, hx626_0⟩ (fun hHeld => ?_); refine with_tabW spec_ConicBack.tab9 spec_ConicBack.bits9 (fun HT_ HW_ => ?_)
            generalize w43.drew = w44 at HO_10 HO_12 HO622 HB hx623_0 hx624_0 hx625_0 hx626_0 hHeld ⊢
            refine pure_ (i := 0) (N := some 80) (v := ?_) (a' := ?_) #[true, false, false, false, false, false, false, false, false, false, false, false, false, false, false, false, false] rfl rfl (any_of HT_.out (by kernel_rfl)) (fun _ _ _ h => h) (Or.inl ⟨by rfl, ?_⟩) ?_ ?_
            rotate_left
            · intro w'
              go_simp
              with_reducible rfl
            rotate_left
            · simp only [Act.put, List.setIfInBounds_toArray, List.set_cons_zero, List.set_cons_succ, i64_w, i32_w]
              rfl
            refine pure_ (i := 1) (N := some 81) (v := ?_) (a' := ?_) #[true, true, false, false, false, false, false, false, false, false, false, false, false, false, false, false, false] rfl rfl (any_of HT_.out (by kernel_rfl)) (fun _ _ _ h => h) (Or.inl ⟨by rfl, ?_⟩) ?_ ?_
            rotate_left
            · intro w'
              go_simp
              with_reducible rfl
            rotate_left
            · simp only [Act.put, List.setIfInBounds_toArray, List.set_cons_zero, List.set_cons_succ, i64_w, i32_w]
              rfl
            refine pure_ (i := 3) (N := some 83) (v := ?_) (a' := ?_) #[true, true, false, true, false, false, false, false, false, false, false, false, false, false, false, false, false] rfl rfl (any_of HT_.out (by kernel_rfl)) (fun _ _ _ h => h) (Or.inl ⟨by rfl, ?_⟩) ?_ ?_
            rotate_left
            · intro w'
              go_simp
              with_reducible rfl
            rotate_left
            · simp only [Act.put, List.setIfInBounds_toArray, List.set_cons_zero, List.set_cons_succ, i64_w, i32_w]
              rfl
            refine pure_ (i := 4) (N := some 84) (v := ?_) (a' := ?_) #[true, true, false, true, true, false, false, false, false, false, false, false, false, false, false, false, false] rfl rfl (any_of HT_.out (by kernel_rfl)) (fun _ _ _ h => h) (Or.inl ⟨by rfl, ?_⟩) ?_ ?_
            rotate_left
            · intro w'
              go_simp
              with_reducible rfl
            rotate_left
            · simp only [Act.put, List.setIfInBounds_toArray, List.set_cons_zero, List.set_cons_succ, i64_w, i32_w]
              rfl
            refine pure_ (i := 7) (N := some 87) (v := ?_) (a' := ?_) #[true, true, false, true, true, false, false, true, false, false, false, false, false, false, false, false, false] rfl rfl (any_of HT_.out (by kernel_rfl)) (fun _ _ _ h => h) (Or.inl ⟨by rfl, ?_⟩) ?_ ?_
            rotate_left
            · intro w'
              go_simp
              with_reducible rfl
            rotate_left
            · simp only [Act.put, List.setIfInBounds_toArray, List.set_cons_zero, List.set_cons_succ, i64_w, i32_w]
              rfl
            refine pure_ (i := 8) (N := some 88) (v := ?_) (a' := ?_) #[true, true, false, true, true, false, false, true, true, false, false, false, false, false, false, false, false] rfl rfl (any_of HT_.out (by kernel_rfl)) (fun _ _ _ h => h) (Or.inl ⟨by rfl, ?_⟩) ?_ ?_
            rotate_left
            · intro w'
              go_simp
              with_reducible rfl
            rotate_left
            · simp only [Act.put, List.setIfInBounds_toArray, List.set_cons_zero, List.set_cons_succ, i64_w, i32_w]
              rfl
            refine pure_ (i := 10) (N := some 90) (v := ?_) (a' := ?_) #[true, true, false, true, true, false, false, true, true, false, true, false, false, false, false, false, false] rfl rfl (any_of HT_.out (by kernel_rfl)) (fun _ _ _ h => h) (Or.inl ⟨by rfl, ?_⟩) ?_ ?_
            rotate_left
            · intro w'
              go_simp
              with_reducible rfl
            rotate_left
            · simp only [Act.put, List.setIfInBounds_toArray, List.set_cons_zero, List.set_cons_succ, i64_w, i32_w]
              rfl
            refine pure_ (i := 11) (N := some 91) (v := ?_) (a' := ?_) #[true, true, false, true, true, false, false, true, true, false, true, true, false, false, false, false, false] rfl rfl (any_of HT_.out (by kernel_rfl)) (fun _ _ _ h => h) (Or.inl ⟨by rfl, ?_⟩) ?_ ?_
            rotate_left
            · intro w'
              go_simp
              with_reducible rfl
            rotate_left
            · simp only [Act.put, List.setIfInBounds_toArray, List.set_cons_zero, List.set_cons_succ, i64_w, i32_w]
              rfl
            refine take_ (i := 2) (N := some 82) (v := ?_) (a' := ?_) #[true, true, true, true, true, false, false, true, true, false, true, true, false, false, false, false, false] rfl rfl (take_ofW HT_.out HW_.out (by kernel_rfl)) (fun _ _ _ h => h) (Or.inl ⟨by rfl, ?_⟩) hHeld ?_ ?_
            rotate_left
            · rintro w' ⟨s0, s1, s2, s3⟩
              go_simp
              with_reducible rfl
            rotate_left
            · simp only [Act.put, List.setIfInBounds_toArray, List.set_cons_zero, List.set_cons_succ, i64_w, i32_w]
              rfl
            refine take_ (i := 5) (N := some 85) (v := ?_) (a' := ?_) #[true, true, true, true, true, true, false, true, true, false, true, true, false, false, false, false, false] rfl rfl (take_ofW HT_.out HW_.out (by kernel_rfl)) (fun _ _ _ h => h) (Or.inl ⟨by rfl, ?_⟩) hHeld ?_ ?_
            rotate_left
            · rintro w' ⟨s0, s1, s2, s3⟩
              go_simp
              with_reducible rfl
            rotate_left
            · simp only [Act.put, List.setIfInBounds_toArray, List.set_cons_zero, List.set_cons_succ, i64_w, i32_w]
              rfl
            refine pure_ (i := 6) (N := some 86) (v := ?_) (a' := ?_) #[true, true, true, true, true, true, true, true, true, false, true, true, false, false, false, false, false] rfl rfl (any_of HT_.out (by kernel_rfl)) (fun _ _ _ h => h) (Or.inl ⟨by rfl, ?_⟩) ?_ ?_
            rotate_left
            · intro w'
              go_simp
              with_reducible rfl
            rotate_left
            · simp only [Act.put, List.setIfInBounds_toArray, List.set_cons_zero, List.set_cons_succ, i64_w, i32_w]
              rfl
            refine take_ (i := 9) (N := some 89) (v := ?_) (a' := ?_) #[true, true, true, true, true, true, true, true, true, true, true, true, false, false, false, false, false] rfl rfl (take_ofW HT_.out HW_.out (by kernel_rfl)) (fun _ _ _ h => h) (Or.inl ⟨by rfl, ?_⟩) hHeld ?_ ?_
            rotate_left
            · rintro w' ⟨s0, s1, s2, s3⟩
              go_simp
              with_reducible rfl
            rotate_left
            · simp only [Act.put, List.setIfInBounds_toArray, List.set_cons_zero, List.set_cons_succ, i64_w, i32_w]
              rfl
            refine take_ (i := 12) (N := some 92) (v := ?_) (a' := ?_) #[true, true, true, true, true, true, true, true, true, true, true, true, true, false, false, false, false] rfl rfl (take_ofW HT_.out HW_.out (by kernel_rfl)) (fun _ _ _ h => h) (Or.inl ⟨by rfl, ?_⟩) hHeld ?_ ?_
            rotate_left
            · rintro w' ⟨s0, s1, s2, s3⟩
              go_simp
              with_reducible rfl
            rotate_left
            · simp only [Act.put, List.setIfInBounds_toArray, List.set_cons_zero, List.set_cons_succ, i64_w, i32_w]
              rfl
            refine pure_ (i := 13) (N := some 93) (v := ?_) (a' := ?_) #[true, true, true, true, true, true, true, true, true, true, true, true, true, true, false, false, false] rfl rfl (any_of HT_.out (by kernel_rfl)) (fun _ _ _ h => h) (Or.inl ⟨by rfl, ?_⟩) ?_ ?_
            rotate_left
            · intro w'
              go_simp
              with_reducible rfl
            rotate_left
            · simp only [Act.put, List.setIfInBounds_toArray, List.set_cons_zero, List.set_cons_succ, i64_w, i32_w]
              rfl
            refine pure_ (i := 14) (N := some 94) (v := ?_) (a' := ?_) #[true, true, true, true, true, true, true, true, true, true, true, true, true, true, true, false, false] rfl rfl (any_of HT_.out (by kernel_rfl)) (fun _ _ _ h => h) (Or.inl ⟨by rfl, ?_⟩) ?_ ?_
            rotate_left
            · intro w'
              go_simp
              with_reducible rfl
            rotate_left
            · simp only [Act.put, List.setIfInBounds_toArray, List.set_cons_zero, List.set_cons_succ, i64_w, i32_w]
              rfl
            refine one_ (i := 15) (N := some 95) #[true, true, true, true, true, true, true, true, true, true, true, true, true, true, true, true, false] rfl rfl (one_of HT_.out (by kernel_rfl)) (by decide) (fun K hK => ?_)
            refine Kd.R_lit_step (Kd.int .i64) _ 3 ?hg (N := 95) ?hd (xs := ([wrap64 ((rd t620 1) * (rd t601 1)), wrap64 (-(wrap64 ((rd t620 0) * (rd t601 0))))] : List Int)) (inner := [.int .i64 (wrap64 ((rd t620 1) * (rd t601 1))), .int .i64 (wrap64 (-(wrap64 ((rd t620 0) * (rd t601 0)))))]) (ok := fun _ => True) (okp := fun _ => True) ?hr ?hp (fun _ hk => hk) trivial (Below.refl _ _) (Nat.le_refl _) (by simp) ?_; (case hd => rfl); (case hg => rfl); (case hr => first | (go_simp; done) | (go_simp; rfl)); (case hp => exact (Reps.one (show Kd.M (Kd.int .i64) _ _ _ (wrap64 ((rd t620 1) * (rd t601 1))) [.int .i64 (wrap64 ((rd t620 1) * (rd t601 1)))] from rfl) (Reps.one (show Kd.M (Kd.int .i64) _ _ _ (wrap64 (-(wrap64 ((rd t620 0) * (rd t601 0))))) [.int .i64 (wrap64 (-(wrap64 ((rd t620 0) * (rd t601 0)))))] from rfl) (Reps.none _ _))))
            intro v628 w46 ho47 hb hg_ hnew_; have HS0_ := (hb.cell (World.block_lt_of_cell? _ _ (hHeld.1))).trans (hHeld.1); have HS1_ := (hb.cell (World.block_lt_of_cell? _ _ (hHeld.2.1))).trans (hHeld.2.1); have HS2_ := (hb.cell (World.block_lt_of_cell? _ _ (hHeld.2.2.1))).trans (hHeld.2.2.1); have HS3_ := (hb.cell (World.block_lt_of_cell? _ _ (hHeld.2.2.2))).trans (hHeld.2.2.2); clear hg_ hnew_
            (first | rw [← Ny627.out] at ho47 | (simp only [Int.reduceToNat] at ho47; rw [← Ny627.out] at ho47))
            have HO629 := Aside0.mk (Kd.R_lower (Kd.R_new' (Kd.R_new' (Kd.R_new' ho47 (Kd.R_lt (U HO_10.out))) (Kd.R_lt (U HO_12.out))) (Kd.R_lt (U HO622.out))) (below_size BU)); replace HO_10 := Aside0.mk (Kd.R_elder' (U HO_10.out) (Kd.R_base ho47) hb); replace HO_12 := Aside0.mk (Kd.R_elder' (U HO_12.out) (Kd.R_base ho47) hb); replace HO622 := Aside0.mk (Kd.R_elder' (U HO622.out) (Kd.R_base ho47) hb); replace HB := BS hb; clear hb ho47
            refine hK.out _ _ ⟨HS0_, HS1_, HS2_, HS3_⟩ (fun hHeld => ?_)
            clear hK K
            refine norm_ (a' := ?_) ?_ ?_
            rotate_left
            · show Act.put _ (some 95) _ = _
              simp only [Act.put, List.setIfInBounds_toArray, List.set_cons_zero, List.set_cons_succ, i64_w, i32_w]
              rfl
            refine pure_ (i := 16) (N := some 12) (v := ?_) (a' := ?_) #[true, true, true, true, true, true, true, true, true, true, true, true, true, true, true, true, true] rfl rfl (any_of HT_.out (by kernel_rfl)) (fun _ _ _ h => h) (Or.inl ⟨by rfl, ?_⟩) ?_ ?_
            rotate_left
            · intro w'
              go_simp
              with_reducible rfl
            rotate_left
            · simp only [Act.put, List.setIfInBounds_toArray, List.set_cons_zero, List.set_cons_succ, i64_w, i32_w]
              rfl
            refine done_ (done_of HT_.out (by kernel_rfl)) ?_
            obtain ⟨Ao48, co48, eo48⟩ := Kd.R_slice HO629.out; subst eo48
            try go_wp2_with (first | ((with_reducible refine gate_callee (f := 48) rfl ?_); refine goesK (some 97) Try.func48 #[.slice Ao48 y627.length co48] ?_; (with_reducible refine (spec_l5Plain.calls kj20 _ _ y627 t630 _ ?side1 ?side2 A40.out).mono ?_); (case side1 => exact U ((Kd.R_reads' HO629.out).2.2)); (case side2 => exact (Kd.R_reads' HO629.out).2.1); rintro e w49 ⟨v631, rfl, ho0, hb⟩; refine ⟨_, rfl, ?_⟩; have HO632 := Aside0.mk (Kd.R_lower (Kd.R_new' (Kd.R_new' (Kd.R_new' (Kd.R_new' ho0 (Kd.R_lt (U HO_10.out))) (Kd.R_lt (U HO_12.out))) (Kd.R_lt (U HO622.out))) (Kd.R_lt (U HO629.out))) (below_size BU)); replace HO_10 := Aside0.mk (Kd.R_elder' (U HO_10.out) (Kd.R_base ho0) hb); replace HO_12 := Aside0.mk (Kd.R_elder' (U HO_12.out) (Kd.R_base ho0) hb); replace HO622 := Aside0.mk (Kd.R_elder' (U HO622.out) (Kd.R_base ho0) hb); replace HO629 := Aside0.mk (Kd.R_elder' (U HO629.out) (Kd.R_base ho0) hb); replace HB := BS hb; (try clear hb); (try clear ho0)))
            replace HO_10 := Aside0.mk (Kd.R_drew HO_10.out); replace HO_12 := Aside0.mk (Kd.R_drew HO_12.out); replace HO622 := Aside0.mk (Kd.R_drew HO622.out); replace HO629 := Aside0.mk (Kd.R_drew HO629.out); replace HO632 := Aside0.mk (Kd.R_drew HO632.out); replace HB := Aside0.mk (below_drew1 HB.out); obtain ⟨Ao51, co51, eo51⟩ := Kd.R_slice HO632.out
            (first | subst eo51 | (injection eo51 with f1_ f2_ f3_; have f4_ := f1_.symm; have f5_ := f3_.symm; clear f1_ f2_ f3_; subst f4_; subst f5_))
            have p633 : 0 ≤ (0 : Int) := (by omega); have q633 : 0 < (t630.length : Int) := oD; obtain ⟨ad633, e633, hx633_0⟩ := Kd.at_int (Kd.R_reads' HO632.out).2.2 0 p633 q633; cases e633; have qi633 : (0 < t630.length) = True := eq_true (by omega)
            (try rw [show ((0 : Int)).toNat = 0 from rfl] at hx633_0)
            (try rw [Addr.add_zero'] at hx633_0)
            replace p633 := eq_true p633; replace q633 := eq_true q633; have p634 : 0 ≤ (1 : Int) := (by omega); have q634 : 1 < (t630.length : Int) := oD; obtain ⟨ad634, e634, hx634_0⟩ := Kd.at_int (Kd.R_reads' HO632.out).2.2 1 p634 q634; obtain rfl : ad633 = ad634 := (by injection e634)
            (try simp only [show (1 : Int).toNat = 1 from rfl, Nat.reduceMul, Nat.reduceEqDiff, Go.Addr.add, ↓reduceIte] at hx634_0)
            have qi634 : (1 < t630.length) = True := eq_true (by omega)
            (try rw [show ((1 : Int)).toNat = 1 from rfl] at hx634_0)
            replace p634 := eq_true p634; replace q634 := eq_true q634
            refine start_ (n := 9) (S := fun w' => w'.cell? ad633 = some (.int .i64 (rd t630 0)) ∧ w'.cell? ⟨ad633.block, ad633.off + 1, none⟩ = some (.int .i64 (rd t630 1))) (ds := []) #[false, false, false, false, false, false, false, false, false] (by kernel_rfl) rfl rfl ⟨hx633_0, hx634_0⟩ (fun hHeld => ?_); refine with_tabW spec_ConicBack.tab11 spec_ConicBack.bits11 (fun HT_ HW_ => ?_)
            generalize w49.drew = w50 at HO_10 HO_12 HO622 HO629 HO632 HB hx633_0 hx634_0 hHeld ⊢
            refine pure_ (i := 0) (N := some 98) (v := ?_) (a' := ?_) #[true, false, false, false, false, false, false, false, false] rfl rfl (any_of HT_.out (by kernel_rfl)) (fun _ _ _ h => h) (Or.inl ⟨by rfl, ?_⟩) ?_ ?_
            rotate_left
            · intro w'
              go_simp
              with_reducible rfl
            rotate_left
            · simp only [Act.put, List.setIfInBounds_toArray, List.set_cons_zero, List.set_cons_succ, i64_w, i32_w]
              rfl
            refine pure_ (i := 1) (N := some 99) (v := ?_) (a' := ?_) #[true, true, false, false, false, false, false, false, false] rfl rfl (any_of HT_.out (by kernel_rfl)) (fun _ _ _ h => h) (Or.inl ⟨by rfl, ?_⟩) ?_ ?_
            rotate_left
            · intro w'
              go_simp
              with_reducible rfl
            rotate_left
            · simp only [Act.put, List.setIfInBounds_toArray, List.set_cons_zero, List.set_cons_succ, i64_w, i32_w]
              rfl
            refine pure_ (i := 3) (N := some 101) (v := ?_) (a' := ?_) #[true, true, false, true, false, false, false, false, false] rfl rfl (any_of HT_.out (by kernel_rfl)) (fun _ _ _ h => h) (Or.inl ⟨by rfl, ?_⟩) ?_ ?_
            rotate_left
            · intro w'
              go_simp
              with_reducible rfl
            rotate_left
            · simp only [Act.put, List.setIfInBounds_toArray, List.set_cons_zero, List.set_cons_succ, i64_w, i32_w]
              rfl
            refine pure_ (i := 4) (N := some 102) (v := ?_) (a' := ?_) #[true, true, false, true, true, false, false, false, false] rfl rfl (any_of HT_.out (by kernel_rfl)) (fun _ _ _ h => h) (Or.inl ⟨by rfl, ?_⟩) ?_ ?_
            rotate_left
            · intro w'
              go_simp
              with_reducible rfl
            rotate_left
            · simp only [Act.put, List.setIfInBounds_toArray, List.set_cons_zero, List.set_cons_succ, i64_w, i32_w]
              rfl
            refine take_ (i := 2) (N := some 100) (v := ?_) (a' := ?_) #[true, true, true, true, true, false, false, false, false] rfl rfl (take_ofW HT_.out HW_.out (by kernel_rfl)) (fun _ _ _ h => h) (Or.inl ⟨by rfl, ?_⟩) hHeld ?_ ?_
            rotate_left
            · rintro w' ⟨s0, s1⟩
              go_simp
              with_reducible rfl
            rotate_left
            · simp only [Act.put, List.setIfInBounds_toArray, List.set_cons_zero, List.set_cons_succ, i64_w, i32_w]
              rfl
            refine pure_ (i := 6) (N := some 6) (v := ?_) (a' := ?_) #[true, true, true, true, true, false, true, false, false] rfl rfl (any_of HT_.out (by kernel_rfl)) (fun _ _ _ h => h) (Or.inl ⟨by rfl, ?_⟩) ?_ ?_
            rotate_left
            · intro w'
              go_simp
              with_reducible rfl
            rotate_left
            · simp only [Act.put, List.setIfInBounds_toArray, List.set_cons_zero, List.set_cons_succ, i64_w, i32_w]
              rfl
            refine take_ (i := 5) (N := some 103) (v := ?_) (a' := ?_) #[true, true, true, true, true, true, true, false, false] rfl rfl (take_ofW HT_.out HW_.out (by kernel_rfl)) (fun _ _ _ h => h) (Or.inl ⟨by rfl, ?_⟩) hHeld ?_ ?_
            rotate_left
            · rintro w' ⟨s0, s1⟩
              go_simp
              with_reducible rfl
            rotate_left
            · simp only [Act.put, List.setIfInBounds_toArray, List.set_cons_zero, List.set_cons_succ, i64_w, i32_w]
              rfl
            refine pure_ (i := 7) (N := some 7) (v := ?_) (a' := ?_) #[true, true, true, true, true, true, true, true, false] rfl rfl (any_of HT_.out (by kernel_rfl)) (fun _ _ _ h => h) (Or.inl ⟨by rfl, ?_⟩) ?_ ?_
            rotate_left
            · intro w'
              go_simp
              with_reducible rfl
            rotate_left
            · simp only [Act.put, List.setIfInBounds_toArray, List.set_cons_zero, List.set_cons_succ, i64_w, i32_w]
              rfl
            refine pure_ (i := 8) (N := some 8) (v := ?_) (a' := ?_) #[true, true, true, true, true, true, true, true, true] rfl rfl (any_of HT_.out (by kernel_rfl)) (fun _ _ _ h => h) (Or.inl ⟨by rfl, ?_⟩) ?_ ?_
            rotate_left
            · intro w'
              go_simp
              with_reducible rfl
            rotate_left
            · simp only [Act.put, List.setIfInBounds_toArray, List.set_cons_zero, List.set_cons_succ, i64_w, i32_w]
              rfl
            refine done_ (done_of HT_.out (by kernel_rfl)) ?_
            try go_wp2
            go_ret3
            exact ⟨eR, BU⟩
          replace c34 := Bool.eq_false_iff.mpr c34; subst c34; replace H := ifF H; obtain ⟨t635, A52, H⟩ := bnd H; obtain ⟨c53, H⟩ := ifN H; have c53b0 : decide (0 < (t635.length : Int)) = true := decide_eq_true c53; have c53b1 : decide (0 < t635.length) = true := decide_eq_true (by omega); clear c53; obtain ⟨c54, H⟩ := ifN H; have c54b0 : decide (1 < (t635.length : Int)) = true := decide_eq_true c54; have c54b1 : decide (1 < t635.length) = true := decide_eq_true (by omega); clear c54; simp only [Option.some.injEq, Prod.mk.injEq] at H; obtain ⟨rfl, rfl, rfl⟩ := H; obtain ⟨Ao55, co55, eo55⟩ := Kd.R_slice HO_12.out; subst eo55
          try go_wp2_with (first | ((with_reducible refine gate_callee (f := 48) rfl ?_); refine goesK (some 97) Try.func48 #[.slice Ao55 y615.length co55] ?_; (with_reducible refine (spec_l5Plain.calls kj20 _ _ y615 t635 _ ?side1 ?side2 A52.out).mono ?_); (case side1 => exact U ((Kd.R_reads' HO_12.out).2.2)); (case side2 => exact (Kd.R_reads' HO_12.out).2.1); rintro e w56 ⟨v636, rfl, ho0, hb⟩; refine ⟨_, rfl, ?_⟩; have HO637 := Aside0.mk (Kd.R_lower (Kd.R_new' (Kd.R_new' ho0 (Kd.R_lt (U HO_10.out))) (Kd.R_lt (U HO_12.out))) (below_size BU)); replace HO_10 := Aside0.mk (Kd.R_elder' (U HO_10.out) (Kd.R_base ho0) hb); replace HO_12 := Aside0.mk (Kd.R_elder' (U HO_12.out) (Kd.R_base ho0) hb); replace HB := BS hb; (try clear hb); (try clear ho0)))
          replace HO_10 := Aside0.mk (Kd.R_drew HO_10.out); replace HO_12 := Aside0.mk (Kd.R_drew HO_12.out); replace HO637 := Aside0.mk (Kd.R_drew HO637.out); replace HB := Aside0.mk (below_drew1 HB.out); obtain ⟨Ao58, co58, eo58⟩ := Kd.R_slice HO637.out
          (first | subst eo58 | (injection eo58 with f1_ f2_ f3_; have f4_ := f1_.symm; have f5_ := f3_.symm; clear f1_ f2_ f3_; subst f4_; subst f5_))
          have p638 : 0 ≤ (0 : Int) := (by omega); have q638 : 0 < (t635.length : Int) := oD; obtain ⟨ad638, e638, hx638_0⟩ := Kd.at_int (Kd.R_reads' HO637.out).2.2 0 p638 q638; cases e638; have qi638 : (0 < t635.length) = True := eq_true (by omega)
          (try rw [show ((0 : Int)).toNat = 0 from rfl] at hx638_0)
          (try rw [Addr.add_zero'] at hx638_0)
          replace p638 := eq_true p638; replace q638 := eq_true q638; have p639 : 0 ≤ (1 : Int) := (by omega); have q639 : 1 < (t635.length : Int) := oD; obtain ⟨ad639, e639, hx639_0⟩ := Kd.at_int (Kd.R_reads' HO637.out).2.2 1 p639 q639; obtain rfl : ad638 = ad639 := (by injection e639)
          (try simp only [show (1 : Int).toNat = 1 from rfl, Nat.reduceMul, Nat.reduceEqDiff, Go.Addr.add, ↓reduceIte] at hx639_0)
          have qi639 : (1 < t635.length) = True := eq_true (by omega)
          (try rw [show ((1 : Int)).toNat = 1 from rfl] at hx639_0)
          replace p639 := eq_true p639; replace q639 := eq_true q639
          refine start_ (n := 9) (S := fun w' => w'.cell? ad638 = some (.int .i64 (rd t635 0)) ∧ w'.cell? ⟨ad638.block, ad638.off + 1, none⟩ = some (.int .i64 (rd t635 1))) (ds := []) #[false, false, false, false, false, false, false, false, false] (by kernel_rfl) rfl rfl ⟨hx638_0, hx639_0⟩ (fun hHeld => ?_); refine with_tabW spec_ConicBack.tab11 spec_ConicBack.bits11 (fun HT_ HW_ => ?_)
          generalize w56.drew = w57 at HO_10 HO_12 HO637 HB hx638_0 hx639_0 hHeld ⊢
          refine pure_ (i := 0) (N := some 98) (v := ?_) (a' := ?_) #[true, false, false, false, false, false, false, false, false] rfl rfl (any_of HT_.out (by kernel_rfl)) (fun _ _ _ h => h) (Or.inl ⟨by rfl, ?_⟩) ?_ ?_
          rotate_left
          · intro w'
            go_simp
            with_reducible rfl
          rotate_left
          · simp only [Act.put, List.setIfInBounds_toArray, List.set_cons_zero, List.set_cons_succ, i64_w, i32_w]
            rfl
          refine pure_ (i := 1) (N := some 99) (v := ?_) (a' := ?_) #[true, true, false, false, false, false, false, false, false] rfl rfl (any_of HT_.out (by kernel_rfl)) (fun _ _ _ h => h) (Or.inl ⟨by rfl, ?_⟩) ?_ ?_
          rotate_left
          · intro w'
            go_simp
            with_reducible rfl
          rotate_left
          · simp only [Act.put, List.setIfInBounds_toArray, List.set_cons_zero, List.set_cons_succ, i64_w, i32_w]
            rfl
          refine pure_ (i := 3) (N := some 101) (v := ?_) (a' := ?_) #[true, true, false, true, false, false, false, false, false] rfl rfl (any_of HT_.out (by kernel_rfl)) (fun _ _ _ h => h) (Or.inl ⟨by rfl, ?_⟩) ?_ ?_
          rotate_left
          · intro w'
            go_simp
            with_reducible rfl
          rotate_left
          · simp only [Act.put, List.setIfInBounds_toArray, List.set_cons_zero, List.set_cons_succ, i64_w, i32_w]
            rfl
          refine pure_ (i := 4) (N := some 102) (v := ?_) (a' := ?_) #[true, true, false, true, true, false, false, false, false] rfl rfl (any_of HT_.out (by kernel_rfl)) (fun _ _ _ h => h) (Or.inl ⟨by rfl, ?_⟩) ?_ ?_
          rotate_left
          · intro w'
            go_simp
            with_reducible rfl
          rotate_left
          · simp only [Act.put, List.setIfInBounds_toArray, List.set_cons_zero, List.set_cons_succ, i64_w, i32_w]
            rfl
          refine take_ (i := 2) (N := some 100) (v := ?_) (a' := ?_) #[true, true, true, true, true, false, false, false, false] rfl rfl (take_ofW HT_.out HW_.out (by kernel_rfl)) (fun _ _ _ h => h) (Or.inl ⟨by rfl, ?_⟩) hHeld ?_ ?_
          rotate_left
          · rintro w' ⟨s0, s1⟩
            go_simp
            with_reducible rfl
          rotate_left
          · simp only [Act.put, List.setIfInBounds_toArray, List.set_cons_zero, List.set_cons_succ, i64_w, i32_w]
            rfl
          refine pure_ (i := 6) (N := some 6) (v := ?_) (a' := ?_) #[true, true, true, true, true, false, true, false, false] rfl rfl (any_of HT_.out (by kernel_rfl)) (fun _ _ _ h => h) (Or.inl ⟨by rfl, ?_⟩) ?_ ?_
          rotate_left
          · intro w'
            go_simp
            with_reducible rfl
          rotate_left
          · simp only [Act.put, List.setIfInBounds_toArray, List.set_cons_zero, List.set_cons_succ, i64_w, i32_w]
            rfl
          refine take_ (i := 5) (N := some 103) (v := ?_) (a' := ?_) #[true, true, true, true, true, true, true, false, false] rfl rfl (take_ofW HT_.out HW_.out (by kernel_rfl)) (fun _ _ _ h => h) (Or.inl ⟨by rfl, ?_⟩) hHeld ?_ ?_
          rotate_left
          · rintro w' ⟨s0, s1⟩
            go_simp
            with_reducible rfl
          rotate_left
          · simp only [Act.put, List.setIfInBounds_toArray, List.set_cons_zero, List.set_cons_succ, i64_w, i32_w]
            rfl
          refine pure_ (i := 7) (N := some 7) (v := ?_) (a' := ?_) #[true, true, true, true, true, true, true, true, false] rfl rfl (any_of HT_.out (by kernel_rfl)) (fun _ _ _ h => h) (Or.inl ⟨by rfl, ?_⟩) ?_ ?_
          rotate_left
          · intro w'
            go_simp
            with_reducible rfl
          rotate_left
          · simp only [Act.put, List.setIfInBounds_toArray, List.set_cons_zero, List.set_cons_succ, i64_w, i32_w]
            rfl
          refine pure_ (i := 8) (N := some 8) (v := ?_) (a' := ?_) #[true, true, true, true, true, true, true, true, true] rfl rfl (any_of HT_.out (by kernel_rfl)) (fun _ _ _ h => h) (Or.inl ⟨by rfl, ?_⟩) ?_ ?_
          rotate_left
          · intro w'
            go_simp
            with_reducible rfl
          rotate_left
          · simp only [Act.put, List.setIfInBounds_toArray, List.set_cons_zero, List.set_cons_succ, i64_w, i32_w]
            rfl
          refine done_ (done_of HT_.out (by kernel_rfl)) ?_
          try go_wp2
          go_ret3
          exact ⟨eR, BU⟩

end Go.Proofs.Ytpaohkhmhdhibaa.PFnConicBack
