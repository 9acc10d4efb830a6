-- Written by a program of this session (wip/print2.py): the functions that the law reaches, plain, and the walks.
import Derived.Test.YtpaohkhmhdhibaaPFnAtx0
import Derived.Test.YtpaohkhmhdhibaaPFnAtx6
import Derived.Test.YtpaohkhmhdhibaaPFnAtx8
import Derived.Test.YtpaohkhmhdhibaaPFnAtx9
import Derived.Test.YtpaohkhmhdhibaaPFnAtx12
import Derived.Test.YtpaohkhmhdhibaaPFnAtx13
namespace Go.Proofs.Ytpaohkhmhdhibaa.PFnAt
open Go.RowKit Go.Proofs.YtpaohkhmhdhibaaW.PrintWords Go.Proofs.YtpaohkhmhdhibaaW.PrintLast Go.Proofs.YtpaohkhmhdhibaaW.PrintMore
attribute [local go_sem] max2_int min2_int max_two min_two max_three min_three max_four min_four   -- for this text's walks alone
set_option linter.unusedVariables false
set_option linter.unusedSimpArgs false

/-! ### spec_ZeroFind: function 59 -/
def spec_ZeroFind.f (k : Nat) (l0 : List Int) : Option (List Int × Bool) := (spec_FormValid.f k l0).bind fun t416 => (if t416 = true then (if (l0.length : Int) = 2 then (if 0 < (l0.length : Int) then ((spec_l1Core.f k (rd l0 0)).bind fun bt421 => (if 1 < (l0.length : Int) then ((spec_l1Core.f k (rd l0 1)).bind fun bt424 => (if (wrap64 (bt421.1 + bt424.1)) = 0 then ((spec_l5Plain.f k (([bt424.2, bt421.2] : List Int))).bind fun t429 => (some (t429, true))) else (some ((([] : List Int)), false)))) else (none))) else (none)) else (if (l0.length : Int) = 3 then ((spec_l5Three.f k l0).bind fun bt435 => (some (bt435.1, bt435.2))) else (if (l0.length : Int) = 4 then ((spec_l5Four.f k l0).bind fun bt439 => (some (bt439.1, bt439.2))) else (some ((([] : List Int)), false))))) else (some ((([] : List Int)), false)))
theorem spec_ZeroFind.mono : ∀ a0 k, LeO (spec_ZeroFind.f k a0) (spec_ZeroFind.f (k + 1) a0) := by
  intro a0 k
  unfold spec_ZeroFind.f
  repeat' first
      | (with_reducible exact spec_FormValid.mono _ _)
      | (with_reducible exact spec_l1Core.mono _ _)
      | (with_reducible exact spec_l5Four.mono _ _)
      | (with_reducible exact spec_l5Plain.mono _ _)
      | (with_reducible exact spec_l5Three.mono _ _)
      | (with_reducible exact LeO.refl _)
      | (with_reducible exact LeO.none _)
      | (with_reducible refine LeO.ite ?_ ?_)
      | (with_reducible refine LeO.bind ?_ (fun _ => ?_))
      | exact spec_FormValid.mono _ _
      | exact spec_l1Core.mono _ _
      | exact spec_l5Four.mono _ _
      | exact spec_l5Plain.mono _ _
      | exact spec_l5Three.mono _ _
      | exact LeO.none _
      | refine LeO.ite ?_ ?_
      | refine LeO.bind ?_ (fun _ => ?_)
set_option maxHeartbeats 8000000 in
set_option maxRecDepth 100000 in
theorem spec_ZeroFind.calls (k : Nat) (A0 : Option Addr) (c0 : Nat) (l0 : List Int) (r1 : List Int) (r2 : Bool) (w : World) (hr0 : Kd.C (Kd.int .i64) w A0 l0.length l0) (hc0 : l0.length ≤ c0) (h : spec_ZeroFind.f k l0 = some (r1, r2)) :
    Calls Try.prog 59 #[.slice A0 l0.length c0] w fun e w' => ∃ v0_ : Value, e = .returned (.tuple #[v0_, .bool r2]) ∧ Kd.R (Kd.int .i64) 3 w' w.heap.size (fun _ => True) v0_ r1 ∧ Below w.heap.size w w' := by
  have HR0 := Aside0.mk hr0; have HC0 := Aside0.mk hc0; clear hr0 hc0; have HB := Aside0.mk (Below.refl w.heap.size w); unfold spec_ZeroFind.f at h; have H := h; clear h; obtain ⟨t416, A2, H⟩ := bnd H
  by_cases c3 : t416 = true
  · subst c3
    replace H := ifT H
    by_cases c4 : (l0.length : Int) = 2
    · rw [if_pos c4] at H
      have c4b0 : ((l0.length : Int) == 2) = true := beq_iff_eq.mpr c4; have c4b1 : ((l0.length : Int) != 2) = false := bne_eq_false_iff_eq.mpr c4; clear c4; obtain ⟨c5, H⟩ := ifN H; have c5b0 : decide (0 < (l0.length : Int)) = true := decide_eq_true c5; have c5b1 : decide (0 < l0.length) = true := decide_eq_true (by omega); clear c5; obtain ⟨⟨t421, t422⟩, A6, H⟩ := bnd H
      replace H : (if 1 < (l0.length : Int) then ((spec_l1Core.f k (rd l0 1)).bind fun bt424 => (if (wrap64 (t421 + bt424.1)) = 0 then ((spec_l5Plain.f k (([bt424.2, t422] : List Int))).bind fun t429 => (some (t429, true))) else (some ((([] : List Int)), false)))) else (none)) = some (r1, r2) := H
      obtain ⟨c7, H⟩ := ifN H; have c7b0 : decide (1 < (l0.length : Int)) = true := decide_eq_true c7; have c7b1 : decide (1 < l0.length) = true := decide_eq_true (by omega); clear c7; obtain ⟨⟨t424, t425⟩, A8, H⟩ := bnd H; replace H : (if (wrap64 (t421 + t424)) = 0 then ((spec_l5Plain.f k (([t425, t422] : List Int))).bind fun t429 => (some (t429, true))) else (some ((([] : List Int)), false))) = some (r1, r2) := H
      by_cases c9 : (wrap64 (t421 + t424)) = 0
      · rw [if_pos c9] at H
        have c9b0 : ((wrap64 (t421 + t424)) == 0) = true := beq_iff_eq.mpr c9; have c9b1 : ((wrap64 (t421 + t424)) != 0) = false := bne_eq_false_iff_eq.mpr c9; clear c9; obtain ⟨y426, hy426⟩ : ∃ y_ : List Int, y_ = (([t425, t422] : List Int)) := ⟨_, rfl⟩; replace H : ((spec_l5Plain.f k y426).bind fun t429 => (some (t429, true))) = some (r1, r2) := rH hy426 H; have Ny426 := Aside0.mk hy426; clear hy426; obtain ⟨t429, A10, H⟩ := bnd H; simp only [Option.some.injEq, Prod.mk.injEq] at H; obtain ⟨rfl, rfl⟩ := H; go_enter Try.func59, Try.ntmps59
        go_wp2_with (first | ((with_reducible refine gate_callee (f := 63) rfl ?_); refine goesK (some 9) Try.func63 #[.slice A0 l0.length c0] ?_; (with_reducible refine (spec_FormValid.calls k _ _ l0 true _ ?side1 ?side2 A2.out).mono ?_); (case side1 => exact U HR0.out); (case side2 => exact HC0.out); rintro e w' ⟨rfl, ⟨nd, rfl⟩⟩; refine ⟨_, rfl, ?_⟩; have p420 : 0 ≤ (0 : Int) := (by omega); have q420 : 0 < (l0.length : Int) := oD; obtain ⟨ad420, e420, hx420_0⟩ := Kd.at_int HR0.out 0 p420 q420; cases e420; have qi420 : (0 < l0.length) = True := eq_true (by omega); (try rw [show ((0 : Int)).toNat = 0 from rfl] at hx420_0); (try rw [Addr.add_zero'] at hx420_0); replace p420 := eq_true p420; replace q420 := eq_true q420) | ((with_reducible refine gate_callee (f := 67) rfl ?_); refine goesK (some 20) Try.func67 #[.int .i64 (rd l0 0)] ?_; (with_reducible refine (spec_l1Core.calls k (rd l0 0) t421 t422 _ A6.out).mono ?_); rintro e w11 ⟨rfl, hb⟩; refine ⟨_, rfl, ?_⟩; replace HB := BS hb; (try clear hb); have p423 : 0 ≤ (1 : Int) := (by omega); have q423 : 1 < (l0.length : Int) := oD; obtain ⟨ad423, e423, hx423_0⟩ := Kd.at_int HR0.out 1 p423 q423; obtain rfl : ad420 = ad423 := (by injection e423); (try simp only [show (1 : Int).toNat = 1 from rfl, Nat.reduceMul, Nat.reduceEqDiff, Go.Addr.add, ↓reduceIte] at hx423_0); have qi423 : (1 < l0.length) = True := eq_true (by omega); (try rw [show ((1 : Int)).toNat = 1 from rfl] at hx423_0); replace hx423_0 := (HB.out.cell (World.block_lt_of_cell? w _ hx423_0)).trans hx423_0; replace p423 := eq_true p423; replace q423 := eq_true q423) | ((with_reducible refine gate_callee (f := 67) rfl ?_); refine goesK (some 27) Try.func67 #[.int .i64 (rd l0 1)] ?_; (with_reducible refine (spec_l1Core.calls k (rd l0 1) t424 t425 _ A8.out).mono ?_); rintro e w12 ⟨rfl, hb⟩; refine ⟨_, rfl, ?_⟩; replace HB := BS hb; (try clear hb)) | ((with_reducible refine gate_dst (N := 36) rfl ?_); refine Kd.R_lit (Kd.int .i64) _ 3 ?hg (N := 36) ?hd (xs := ([t425, t422] : List Int)) (inner := [.int .i64 t425, .int .i64 t422]) (ok := fun _ => True) (okp := fun _ => True) ?hr ?hp (fun _ hk => hk) trivial (Below.refl _ _) (Nat.le_refl _) (by simp) ?_; (case hd => rfl); (case hg => rfl); (case hr => first | (go_simp; done) | (go_simp; rfl)); (case hp => exact (Reps.one (show Kd.M (Kd.int .i64) _ _ _ t425 [.int .i64 t425] from rfl) (Reps.one (show Kd.M (Kd.int .i64) _ _ _ t422 [.int .i64 t422] from rfl) (Reps.none _ _)))); intro v427 w13 ho14 hb hg_ hnew_; clear hg_ hnew_; (first | rw [← Ny426.out] at ho14 | (simp only [Int.reduceToNat] at ho14; rw [← Ny426.out] at ho14)); have HO428 := Aside0.mk (Kd.R_lower ho14 (below_size BU)); replace HB := BS hb; clear hb ho14; obtain ⟨Ao15, co15, eo15⟩ := Kd.R_slice HO428.out; subst eo15) | ((with_reducible refine gate_callee (f := 48) rfl ?_); refine goesK (some 37) Try.func48 #[.slice Ao15 y426.length co15] ?_; (with_reducible refine (spec_l5Plain.calls k _ _ y426 t429 _ ?side1 ?side2 A10.out).mono ?_); (case side1 => exact U ((Kd.R_reads' HO428.out).2.2)); (case side2 => exact (Kd.R_reads' HO428.out).2.1); rintro e w16 ⟨v430, rfl, ho0, hb⟩; refine ⟨_, rfl, ?_⟩; have HO431 := Aside0.mk (Kd.R_lower (Kd.R_new' ho0 (Kd.R_lt (U HO428.out))) (below_size BU)); replace HO428 := Aside0.mk (Kd.R_elder' (U HO428.out) (Kd.R_base ho0) hb); replace HB := BS hb; (try clear hb); (try clear ho0)))
        go_ret2
        exact ⟨_, eR, Kd.RM HO431.out (fun _ hk => trivial), BU⟩
      rw [if_neg c9] at H; have c9b0 : ((wrap64 (t421 + t424)) == 0) = false := beq_eq_false_iff_ne.mpr c9; have c9b1 : ((wrap64 (t421 + t424)) != 0) = true := bne_iff_ne.mpr c9; obtain ⟨y432, hy432⟩ : ∃ y_ : List Int, y_ = (([] : List Int)) := ⟨_, rfl⟩; replace H : (some (y432, false)) = some (r1, r2) := rH hy432 H; have Ny432 := Aside0.mk hy432; clear hy432; simp only [Option.some.injEq, Prod.mk.injEq] at H; obtain ⟨rfl, rfl⟩ := H; go_enter Try.func59, Try.ntmps59
      go_wp2_with (first | ((with_reducible refine gate_callee (f := 63) rfl ?_); refine goesK (some 9) Try.func63 #[.slice A0 l0.length c0] ?_; (with_reducible refine (spec_FormValid.calls k _ _ l0 true _ ?side1 ?side2 A2.out).mono ?_); (case side1 => exact U HR0.out); (case side2 => exact HC0.out); rintro e w' ⟨rfl, ⟨nd, rfl⟩⟩; refine ⟨_, rfl, ?_⟩; have p420 : 0 ≤ (0 : Int) := (by omega); have q420 : 0 < (l0.length : Int) := oD; obtain ⟨ad420, e420, hx420_0⟩ := Kd.at_int HR0.out 0 p420 q420; cases e420; have qi420 : (0 < l0.length) = True := eq_true (by omega); (try rw [show ((0 : Int)).toNat = 0 from rfl] at hx420_0); (try rw [Addr.add_zero'] at hx420_0); replace p420 := eq_true p420; replace q420 := eq_true q420) | ((with_reducible refine gate_callee (f := 67) rfl ?_); refine goesK (some 20) Try.func67 #[.int .i64 (rd l0 0)] ?_; (with_reducible refine (spec_l1Core.calls k (rd l0 0) t421 t422 _ A6.out).mono ?_); rintro e w17 ⟨rfl, hb⟩; refine ⟨_, rfl, ?_⟩; replace HB := BS hb; (try clear hb); have p423 : 0 ≤ (1 : Int) := (by omega); have q423 : 1 < (l0.length : Int) := oD; obtain ⟨ad423, e423, hx423_0⟩ := Kd.at_int HR0.out 1 p423 q423; obtain rfl : ad420 = ad423 := (by injection e423); (try simp only [show (1 : Int).toNat = 1 from rfl, Nat.reduceMul, Nat.reduceEqDiff, Go.Addr.add, ↓reduceIte] at hx423_0); have qi423 : (1 < l0.length) = True := eq_true (by omega); (try rw [show ((1 : Int)).toNat = 1 from rfl] at hx423_0); replace hx423_0 := (HB.out.cell (World.block_lt_of_cell? w _ hx423_0)).trans hx423_0; replace p423 := eq_true p423; replace q423 := eq_true q423) | ((with_reducible refine gate_callee (f := 67) rfl ?_); refine goesK (some 27) Try.func67 #[.int .i64 (rd l0 1)] ?_; (with_reducible refine (spec_l1Core.calls k (rd l0 1) t424 t425 _ A8.out).mono ?_); rintro e w18 ⟨rfl, hb⟩; refine ⟨_, rfl, ?_⟩; replace HB := BS hb; (try clear hb)) | ((with_reducible refine gate_dst (N := 50) rfl ?_); refine Kd.R_lit (Kd.int .i64) _ 3 ?hg (N := 50) ?hd (xs := ([] : List Int)) (inner := []) (ok := fun _ => True) (okp := fun _ => True) ?hr ?hp (fun _ hk => hk) trivial (Below.refl _ _) (Nat.le_refl _) (by simp) ?_; (case hd => rfl); (case hg => rfl); (case hr => first | (go_simp; done) | (go_simp; rfl)); (case hp => exact (Reps.none _ _)); intro v433 w19 ho20 hb hg_ hnew_; clear hg_ hnew_; (first | rw [← Ny432.out] at ho20 | (simp only [Int.reduceToNat] at ho20; rw [← Ny432.out] at ho20)); have HO434 := Aside0.mk (Kd.R_lower ho20 (below_size BU)); replace HB := BS hb; clear hb ho20))
      go_ret2
      exact ⟨_, eR, U HO434.out, BU⟩
    rw [if_neg c4] at H; have c4b0 : ((l0.length : Int) == 2) = false := beq_eq_false_iff_ne.mpr c4; have c4b1 : ((l0.length : Int) != 2) = true := bne_iff_ne.mpr c4
    by_cases c21 : (l0.length : Int) = 3
    · rw [if_pos c21] at H
      have c21b0 : ((l0.length : Int) == 3) = true := beq_iff_eq.mpr c21; have c21b1 : ((l0.length : Int) != 3) = false := bne_eq_false_iff_eq.mpr c21; clear c21; obtain ⟨⟨t435, t436⟩, A22, H⟩ := bnd H; replace H : (some (t435, t436)) = some (r1, r2) := H; simp only [Option.some.injEq, Prod.mk.injEq] at H; obtain ⟨rfl, rfl⟩ := H; go_enter Try.func59, Try.ntmps59
      go_wp2_with (first | ((with_reducible refine gate_callee (f := 63) rfl ?_); refine goesK (some 9) Try.func63 #[.slice A0 l0.length c0] ?_; (with_reducible refine (spec_FormValid.calls k _ _ l0 true _ ?side1 ?side2 A2.out).mono ?_); (case side1 => exact U HR0.out); (case side2 => exact HC0.out); rintro e w' ⟨rfl, ⟨nd, rfl⟩⟩; refine ⟨_, rfl, ?_⟩) | ((with_reducible refine gate_callee (f := 68) rfl ?_); refine goesK (some 41) Try.func68 #[.slice A0 l0.length c0] ?_; (with_reducible refine (spec_l5Three.calls k _ _ l0 t435 t436 _ ?side1 ?side2 A22.out).mono ?_); (case side1 => exact U HR0.out); (case side2 => exact HC0.out); rintro e w23 ⟨v437, rfl, ho0, hb⟩; refine ⟨_, rfl, ?_⟩; have HO438 := Aside0.mk (Kd.R_lower ho0 (below_size BU)); replace HB := BS hb; (try clear hb); (try clear ho0)))
      go_ret2
      exact ⟨_, eR, U HO438.out, BU⟩
    rw [if_neg c21] at H; have c21b0 : ((l0.length : Int) == 3) = false := beq_eq_false_iff_ne.mpr c21; have c21b1 : ((l0.length : Int) != 3) = true := bne_iff_ne.mpr c21
    by_cases c24 : (l0.length : Int) = 4
    · rw [if_pos c24] at H
      have c24b0 : ((l0.length : Int) == 4) = true := beq_iff_eq.mpr c24; have c24b1 : ((l0.length : Int) != 4) = false := bne_eq_false_iff_eq.mpr c24; clear c24; obtain ⟨⟨t439, t440⟩, A25, H⟩ := bnd H; replace H : (some (t439, t440)) = some (r1, r2) := H; simp only [Option.some.injEq, Prod.mk.injEq] at H; obtain ⟨rfl, rfl⟩ := H; go_enter Try.func59, Try.ntmps59
      go_wp2_with (first | ((with_reducible refine gate_callee (f := 63) rfl ?_); refine goesK (some 9) Try.func63 #[.slice A0 l0.length c0] ?_; (with_reducible refine (spec_FormValid.calls k _ _ l0 true _ ?side1 ?side2 A2.out).mono ?_); (case side1 => exact U HR0.out); (case side2 => exact HC0.out); rintro e w' ⟨rfl, ⟨nd, rfl⟩⟩; refine ⟨_, rfl, ?_⟩) | ((with_reducible refine gate_callee (f := 69) rfl ?_); refine goesK (some 47) Try.func69 #[.slice A0 l0.length c0] ?_; (with_reducible refine (spec_l5Four.calls k _ _ l0 t439 t440 _ ?side1 ?side2 A25.out).mono ?_); (case side1 => exact U HR0.out); (case side2 => exact HC0.out); rintro e w26 ⟨v441, rfl, ho0, hb⟩; refine ⟨_, rfl, ?_⟩; have HO442 := Aside0.mk (Kd.R_lower ho0 (below_size BU)); replace HB := BS hb; (try clear hb); (try clear ho0)))
      go_ret2
      exact ⟨_, eR, U HO442.out, BU⟩
    rw [if_neg c24] at H; have c24b0 : ((l0.length : Int) == 4) = false := beq_eq_false_iff_ne.mpr c24; have c24b1 : ((l0.length : Int) != 4) = true := bne_iff_ne.mpr c24; obtain ⟨y443, hy443⟩ : ∃ y_ : List Int, y_ = (([] : List Int)) := ⟨_, rfl⟩; replace H : (some (y443, false)) = some (r1, r2) := rH hy443 H; have Ny443 := Aside0.mk hy443; clear hy443; simp only [Option.some.injEq, Prod.mk.injEq] at H; obtain ⟨rfl, rfl⟩ := H; go_enter Try.func59, Try.ntmps59
    go_wp2_with (first | ((with_reducible refine gate_callee (f := 63) rfl ?_); refine goesK (some 9) Try.func63 #[.slice A0 l0.length c0] ?_; (with_reducible refine (spec_FormValid.calls k _ _ l0 true _ ?side1 ?side2 A2.out).mono ?_); (case side1 => exact U HR0.out); (case side2 => exact HC0.out); rintro e w' ⟨rfl, ⟨nd, rfl⟩⟩; refine ⟨_, rfl, ?_⟩) | ((with_reducible refine gate_dst (N := 50) rfl ?_); refine Kd.R_lit (Kd.int .i64) _ 3 ?hg (N := 50) ?hd (xs := ([] : List Int)) (inner := []) (ok := fun _ => True) (okp := fun _ => True) ?hr ?hp (fun _ hk => hk) trivial (Below.refl _ _) (Nat.le_refl _) (by simp) ?_; (case hd => rfl); (case hg => rfl); (case hr => first | (go_simp; done) | (go_simp; rfl)); (case hp => exact (Reps.none _ _)); intro v444 w27 ho28 hb hg_ hnew_; clear hg_ hnew_; (first | rw [← Ny443.out] at ho28 | (simp only [Int.reduceToNat] at ho28; rw [← Ny443.out] at ho28)); have HO445 := Aside0.mk (Kd.R_lower ho28 (below_size BU)); replace HB := BS hb; clear hb ho28))
    go_ret2
    exact ⟨_, eR, U HO445.out, BU⟩
  replace c3 := Bool.eq_false_iff.mpr c3; subst c3; replace H := ifF H; obtain ⟨y417, hy417⟩ : ∃ y_ : List Int, y_ = (([] : List Int)) := ⟨_, rfl⟩; replace H : (some (y417, false)) = some (r1, r2) := rH hy417 H; have Ny417 := Aside0.mk hy417; clear hy417; simp only [Option.some.injEq, Prod.mk.injEq] at H; obtain ⟨rfl, rfl⟩ := H; go_enter Try.func59, Try.ntmps59
  go_wp2_with (first | ((with_reducible refine gate_callee (f := 63) rfl ?_); refine goesK (some 9) Try.func63 #[.slice A0 l0.length c0] ?_; (with_reducible refine (spec_FormValid.calls k _ _ l0 false _ ?side1 ?side2 A2.out).mono ?_); (case side1 => exact U HR0.out); (case side2 => exact HC0.out); rintro e w' ⟨rfl, ⟨nd, rfl⟩⟩; refine ⟨_, rfl, ?_⟩) | ((with_reducible refine gate_dst (N := 11) rfl ?_); refine Kd.R_lit (Kd.int .i64) _ 3 ?hg (N := 11) ?hd (xs := ([] : List Int)) (inner := []) (ok := fun _ => True) (okp := fun _ => True) ?hr ?hp (fun _ hk => hk) trivial (Below.refl _ _) (Nat.le_refl _) (by simp) ?_; (case hd => rfl); (case hg => rfl); (case hr => first | (go_simp; done) | (go_simp; rfl)); (case hp => exact (Reps.none _ _)); intro v418 w29 ho30 hb hg_ hnew_; clear hg_ hnew_; (first | rw [← Ny417.out] at ho30 | (simp only [Int.reduceToNat] at ho30; rw [← Ny417.out] at ho30)); have HO419 := Aside0.mk (Kd.R_lower ho30 (below_size BU)); replace HB := BS hb; clear hb ho30))
  go_ret2
  exact ⟨_, eR, U HO419.out, BU⟩

/-! ### spec_l92Point: function 28 -/
def spec_l92Point.j0 : Nat → List Int → List Int → Int → Option (List Int × List Int × Int)
  | 0, _, _, _ => none
  | k + 1, x4, x1000, x1001 => (spec_ZeroFind.f k x4).bind fun bt455 => (if bt455.2 = true then ((spec_l6Rd_pick.f k x1000 x1001 16).bind fun bt459 => (if bt459.1 > 0 then (some (x4, bt455.1, bt459.2)) else ((spec_l91Vector.f k x1000 bt459.2 x4 3).bind fun bt461 => (some (x4, bt461.1, bt461.2))))) else ((spec_l91Vector.f k x1000 x1001 x4 3).bind fun bt465 => (some (x4, bt465.1, bt465.2))))
def spec_l92Point.f (k : Nat) (s0_0 : List Int) (s0_1 : Int) : Option (List Int × List Int × Int) := (spec_l92Form.f k s0_0 s0_1 3).bind fun bt446 => ((spec_l6Rd_pick.f k s0_0 bt446.2 4).bind fun bt450 => (if bt450.1 = 0 then (spec_l92Point.j0 k (([1, 1, (-1)] : List Int)) s0_0 bt450.2) else (spec_l92Point.j0 k bt446.1 s0_0 bt450.2)))
theorem spec_l92Point.mono_l : ∀ k, (∀ y0 y1 y2, LeO (spec_l92Point.j0 k y0 y1 y2) (spec_l92Point.j0 (k + 1) y0 y1 y2))
  | 0 => fun _ _ _ r h => by simp [spec_l92Point.j0] at h
  | k + 1 => by
    have ih0 := spec_l92Point.mono_l k
    · intro y0 y1 y2
      unfold spec_l92Point.j0
      repeat' first
      | (with_reducible exact ih0 _ _ _)
      | (with_reducible exact spec_ZeroFind.mono _ _)
      | (with_reducible exact spec_l6Rd_pick.mono _ _ _ _)
      | (with_reducible exact spec_l91Vector.mono _ _ _ _ _)
      | (with_reducible exact spec_l92Form.mono _ _ _ _)
      | (with_reducible exact LeO.refl _)
      | (with_reducible exact LeO.none _)
      | (with_reducible refine LeO.ite ?_ ?_)
      | (with_reducible refine LeO.bind ?_ (fun _ => ?_))
      | exact ih0 _ _ _
      | exact spec_ZeroFind.mono _ _
      | exact spec_l6Rd_pick.mono _ _ _ _
      | exact spec_l91Vector.mono _ _ _ _ _
      | exact spec_l92Form.mono _ _ _ _
      | exact LeO.none _
      | refine LeO.ite ?_ ?_
      | refine LeO.bind ?_ (fun _ => ?_)
theorem spec_l92Point.mono : ∀ a0 a1 k, LeO (spec_l92Point.f k a0 a1) (spec_l92Point.f (k + 1) a0 a1) := by
  intro a0 a1 k
  have ih0 := spec_l92Point.mono_l k
  unfold spec_l92Point.f
  repeat' first
      | (with_reducible exact ih0 _ _ _)
      | (with_reducible exact spec_ZeroFind.mono _ _)
      | (with_reducible exact spec_l6Rd_pick.mono _ _ _ _)
      | (with_reducible exact spec_l91Vector.mono _ _ _ _ _)
      | (with_reducible exact spec_l92Form.mono _ _ _ _)
      | (with_reducible exact LeO.refl _)
      | (with_reducible exact LeO.none _)
      | (with_reducible refine LeO.ite ?_ ?_)
      | (with_reducible refine LeO.bind ?_ (fun _ => ?_))
      | exact ih0 _ _ _
      | exact spec_ZeroFind.mono _ _
      | exact spec_l6Rd_pick.mono _ _ _ _
      | exact spec_l91Vector.mono _ _ _ _ _
      | exact spec_l92Form.mono _ _ _ _
      | exact LeO.none _
      | refine LeO.ite ?_ ?_
      | refine LeO.bind ?_ (fun _ => ?_)
set_option maxHeartbeats 8000000 in
set_option maxRecDepth 100000 in
theorem spec_l92Point.calls (k : Nat) (g : Nat) (s0_0 : List Int) (s0_1 : Int) (r1 : List Int) (r2 : List Int) (r3 : Int) (w0 w : World) (hI : IsS70 w0 w g s0_0 s0_1) (hB : Below w0.heap.size w0 w) (h : spec_l92Point.f k s0_0 s0_1 = some (r1, r2, r3)) :
    Calls Try.prog 28 #[.pointer (some ⟨g, 0, none⟩)] w fun e w' => ∃ v0_ v1_ : Value, e = .returned (.tuple #[v0_, v1_]) ∧ Kd.R (Kd.int .i64) 3 w' w.heap.size (fun k_ => some k_ ≠ (v1_ : Value).ownBlock) v0_ r1 ∧ Kd.R (Kd.int .i64) 3 w' w.heap.size (fun k_ => some k_ ≠ (v0_ : Value).ownBlock) v1_ r2 ∧ IsS70 w0 w' g s0_0 r3 ∧ Below w0.heap.size w0 w' ∧ KeepBut w w' g none := by
  have HI0 := Aside0.mk hI; have HK := Aside0.mk (KeepBut.refl w g none); have HL := Aside0.mk hB.size; clear hI; have HW0 := Aside0.mk hB.size; have HB := Aside0.mk hB; clear hB; unfold spec_l92Point.f at h; have H := h; clear h; obtain ⟨⟨t446, t449⟩, A2, H⟩ := bnd H
  replace H : ((spec_l6Rd_pick.f k s0_0 t449 4).bind fun bt450 => (if bt450.1 = 0 then (spec_l92Point.j0 k (([1, 1, (-1)] : List Int)) s0_0 bt450.2) else (spec_l92Point.j0 k t446 s0_0 bt450.2))) = some (r1, r2, r3) := H
  obtain ⟨⟨t450, t451⟩, A3, H⟩ := bnd H; replace H : (if t450 = 0 then (spec_l92Point.j0 k (([1, 1, (-1)] : List Int)) s0_0 t451) else (spec_l92Point.j0 k t446 s0_0 t451)) = some (r1, r2, r3) := H; have HC4 := Aside0.mk H; clear H; go_enter Try.func28, Try.ntmps28
  go_upto_if 11 with (first | ((with_reducible refine gate_callee (f := 58) rfl ?_); refine goesK (some 8) Try.func58 #[.pointer (some ⟨g, 0, none⟩), .int .i64 3] ?_; (with_reducible refine (spec_l92Form.calls k g s0_0 s0_1 3 t446 t449 w0 _ ?side1 ?side2 A2.out).mono ?_); (case side1 => repeat (first | (with_reducible first | exact HI0.out | apply IsS70.alloc | apply IsS70.drewN | apply IsS70.drew | apply IsS70.set_1) | exact HI0.out)); (case side2 => repeat (first | (with_reducible first | exact HB.out | apply below_alloc | apply pw_below_drewN | apply below_drew1 | refine below_set ?_ (IsS70.ge HI0.out)) | exact HB.out)); rintro e w5 ⟨v447, rfl, ho0, hi, hb, hk⟩; refine ⟨_, rfl, ?_⟩; have HO448 := Aside0.mk (Kd.R_lower ho0 (keep_size (w := w) (g := g) (row := none) KU)); replace HK := Aside0.mk (KeepBut.trans KU hk (.inl rfl)); replace HB := Aside0.mk (hb); replace HI0 := Aside0.mk (hi); (try clear hb); (try clear hk); (try clear hi); (try clear ho0)) | ((with_reducible refine gate_callee (f := 42) rfl ?_); refine goesK (some 10) Try.func42 #[.pointer (some ⟨g, 0, none⟩), .int .i64 4] ?_; (with_reducible refine (spec_l6Rd_pick.calls k g s0_0 t449 4 t450 t451 w0 _ ?side1 ?side2 A3.out).mono ?_); (case side1 => repeat (first | (with_reducible first | exact HI0.out | apply IsS70.alloc | apply IsS70.drewN | apply IsS70.drew | apply IsS70.set_1) | exact HI0.out)); (case side2 => repeat (first | (with_reducible first | exact HB.out | apply below_alloc | apply pw_below_drewN | apply below_drew1 | refine below_set ?_ (IsS70.ge HI0.out)) | exact HB.out)); rintro e w6 ⟨rfl, hi, hb, hk⟩; refine ⟨_, rfl, ?_⟩; replace HO448 := Aside0.mk (Kd.R_mono (Kd.R_keep (IsS70.apart (show IsS70 w0 _ g s0_0 t449 from by repeat (first | (with_reducible first | exact HI0.out | apply IsS70.alloc | apply IsS70.drewN | apply IsS70.drew | apply IsS70.set_1) | exact HI0.out)) (U HO448.out) (by decide)) hk (fun _ h => h.2)) (fun _ h => h.1)); replace HK := Aside0.mk (KeepBut.trans KU hk (.inl rfl)); replace HB := Aside0.mk (hb); replace HI0 := Aside0.mk (hi); (try clear hb); (try clear hk); (try clear hi)))
  (try simp only [Act.put, List.setIfInBounds_toArray, List.set_cons_zero, List.set_cons_succ])
  go_cut [4] (fun v4 wc => ∃ (kq : Nat) (x4_3 : List Int), Aside0 (spec_l92Point.j0 kq x4_3 s0_0 t451 = some (r1, r2, r3)) ∧ Aside0 (kq ≤ k) ∧ Aside0 (Kd.R (Kd.int .i64) 3 wc w.heap.size (fun _ => True) v4 x4_3) ∧ Aside0 (IsS70 w0 wc g s0_0 t451) ∧ Aside0 (KeepBut w wc g none) ∧ Aside0 (Below w0.heap.size w0 wc))
  case first =>
    have H := HC4.out; clear HC4
    by_cases c7 : t450 = 0
    · rw [if_pos c7] at H
      have c7b0 : (t450 == 0) = true := beq_iff_eq.mpr c7; have c7b1 : (t450 != 0) = false := bne_eq_false_iff_eq.mpr c7; clear c7
      (first | rw [c7b0] | (simp only [i64_w, i32_w]; rw [c7b0]) | skip)
      obtain ⟨y452, hy452⟩ : ∃ y_ : List Int, y_ = (([1, 1, (-1)] : List Int)) := ⟨_, rfl⟩; replace H : (spec_l92Point.j0 k y452 s0_0 t451) = some (r1, r2, r3) := rH hy452 H; have Ny452 := Aside0.mk hy452; clear hy452; have H' := Aside0.mk H; clear H
      go_wp2_with (first | ((with_reducible refine gate_dst (N := 12) rfl ?_); refine Kd.R_lit (Kd.int .i64) _ 3 ?hg (N := 12) ?hd (xs := ([1, 1, (-1)] : List Int)) (inner := [.int .i64 1, .int .i64 1, .int .i64 (-1)]) (ok := fun _ => True) (okp := fun _ => True) ?hr ?hp (fun _ hk => hk) trivial (Below.refl _ _) (Nat.le_refl _) (by simp) ?_; (case hd => rfl); (case hg => rfl); (case hr => first | (go_simp; done) | (go_simp; rfl)); (case hp => exact (Reps.one (show Kd.M (Kd.int .i64) _ _ _ 1 [.int .i64 1] from rfl) (Reps.one (show Kd.M (Kd.int .i64) _ _ _ 1 [.int .i64 1] from rfl) (Reps.one (show Kd.M (Kd.int .i64) _ _ _ (-1) [.int .i64 (-1)] from rfl) (Reps.none _ _))))); intro v453 w8 ho9 hb hg_ hnew_; clear hg_ hnew_; (first | rw [← Ny452.out] at ho9 | (simp only [Int.reduceToNat] at ho9; rw [← Ny452.out] at ho9)); have HO454 := Aside0.mk (Kd.R_lower (Kd.R_new' ho9 (Kd.R_lt (U HO448.out))) (keep_size (w := w) (g := g) (row := none) KU)); replace HO448 := Aside0.mk (Kd.R_elder' (U HO448.out) (Kd.R_base ho9) hb); replace HK := Aside0.mk (KeepBut.trans KU (KeepBut.of_below hb g none) (.inl rfl)); replace HB := Aside0.mk (below_step (by repeat (first | (with_reducible first | exact HB.out | apply below_alloc | apply pw_below_drewN | apply below_drew1 | refine below_set ?_ (IsS70.ge HI0.out)) | exact HB.out)) hb); replace HI0 := Aside0.mk (IsS70.below (by repeat (first | (with_reducible first | exact HI0.out | apply IsS70.alloc | apply IsS70.drewN | apply IsS70.drew | apply IsS70.set_1) | exact HI0.out)) hb); clear hb ho9))
      go_meet
      case rel => exact ⟨_, (y452), H', ⟨oR⟩, ⟨Kd.RM HO454.out (fun _ hk => trivial)⟩, ⟨by repeat (first | (with_reducible first | exact HI0.out | apply IsS70.alloc | apply IsS70.drewN | apply IsS70.drew | apply IsS70.set_1) | exact HI0.out)⟩, ⟨by repeat (first | (with_reducible first | exact HK.out | apply KeepBut.set_ | apply keep_drewN | apply keep_drew | apply keep_alloc) | exact HK.out)⟩, ⟨by repeat (first | (with_reducible first | exact HB.out | apply below_alloc | apply pw_below_drewN | apply below_drew1 | refine below_set ?_ (IsS70.ge HI0.out)) | exact HB.out)⟩⟩
    rw [if_neg c7] at H; have c7b0 : (t450 == 0) = false := beq_eq_false_iff_ne.mpr c7; have c7b1 : (t450 != 0) = true := bne_iff_ne.mpr c7
    (first | rw [c7b0] | (simp only [i64_w, i32_w]; rw [c7b0]) | skip)
    have H' := Aside0.mk H; clear H
    go_wp2
    go_meet
    case rel => exact ⟨_, (t446), H', ⟨oR⟩, ⟨U HO448.out⟩, ⟨by repeat (first | (with_reducible first | exact HI0.out | apply IsS70.alloc | apply IsS70.drewN | apply IsS70.drew | apply IsS70.set_1) | exact HI0.out)⟩, ⟨by repeat (first | (with_reducible first | exact HK.out | apply KeepBut.set_ | apply keep_drewN | apply keep_drew | apply keep_alloc) | exact HK.out)⟩, ⟨by repeat (first | (with_reducible first | exact HB.out | apply below_alloc | apply pw_below_drewN | apply below_drew1 | refine below_set ?_ (IsS70.ge HI0.out)) | exact HB.out)⟩⟩
  case rest =>
    clear HC4; obtain ⟨kq, x4_3, HA, HJ3, HO_4, HI0, HK, HB⟩ := hcut; cases kq with
    | zero => exact absurd HA.out (by simp [spec_l92Point.j0])
    | succ kj3 =>
      have H := HA.out; clear HA; simp only [spec_l92Point.j0] at H; obtain ⟨⟨t455, t456⟩, A10, H⟩ := bnd H
      replace H : (if t456 = true then ((spec_l6Rd_pick.f kj3 s0_0 t451 16).bind fun bt459 => (if bt459.1 > 0 then (some (x4_3, t455, bt459.2)) else ((spec_l91Vector.f kj3 s0_0 bt459.2 x4_3 3).bind fun bt461 => (some (x4_3, bt461.1, bt461.2))))) else ((spec_l91Vector.f kj3 s0_0 t451 x4_3 3).bind fun bt465 => (some (x4_3, bt465.1, bt465.2)))) = some (r1, r2, r3) := H
      by_cases c11 : t456 = true
      · subst c11
        replace H := ifT H; obtain ⟨⟨t459, t460⟩, A12, H⟩ := bnd H; replace H : (if t459 > 0 then (some (x4_3, t455, t460)) else ((spec_l91Vector.f kj3 s0_0 t460 x4_3 3).bind fun bt461 => (some (x4_3, bt461.1, bt461.2)))) = some (r1, r2, r3) := H
        by_cases c13 : t459 > 0
        · rw [if_pos c13] at H
          have c13b0 : decide (0 < t459) = true := decide_eq_true c13; clear c13; simp only [Option.some.injEq, Prod.mk.injEq] at H; obtain ⟨rfl, rfl, rfl⟩ := H; obtain ⟨Ao14, co14, eo14⟩ := Kd.R_slice HO_4.out; subst eo14
          go_wp2_with (first | ((with_reducible refine gate_callee (f := 59) rfl ?_); refine goesK (some 15) Try.func59 #[.slice Ao14 x4_3.length co14] ?_; (with_reducible refine (spec_ZeroFind.calls kj3 _ _ x4_3 t455 true _ ?side1 ?side2 A10.out).mono ?_); (case side1 => exact U ((Kd.R_reads' HO_4.out).2.2)); (case side2 => exact (Kd.R_reads' HO_4.out).2.1); rintro e w15 ⟨v457, rfl, ho0, hb⟩; refine ⟨_, rfl, ?_⟩; have HO458 := Aside0.mk (Kd.R_lower (Kd.R_new' ho0 (Kd.R_lt (U HO_4.out))) (keep_size (w := w) (g := g) (row := none) KU)); replace HO_4 := Aside0.mk (Kd.R_elder' (U HO_4.out) (Kd.R_base ho0) hb); replace HK := Aside0.mk (KeepBut.trans KU (KeepBut.of_below hb g none) (.inl rfl)); replace HB := Aside0.mk (below_step (by repeat (first | (with_reducible first | exact HB.out | apply below_alloc | apply pw_below_drewN | apply below_drew1 | refine below_set ?_ (IsS70.ge HI0.out)) | exact HB.out)) hb); replace HI0 := Aside0.mk (IsS70.below (by repeat (first | (with_reducible first | exact HI0.out | apply IsS70.alloc | apply IsS70.drewN | apply IsS70.drew | apply IsS70.set_1) | exact HI0.out)) hb); (try clear hb); (try clear ho0)) | (go_at_call 42; (with_reducible refine (spec_l6Rd_pick.calls kj3 g s0_0 t451 16 t459 t460 w0 _ ?side1 ?side2 A12.out).mono ?_); (case side1 => repeat (first | (with_reducible first | exact HI0.out | apply IsS70.alloc | apply IsS70.drewN | apply IsS70.drew | apply IsS70.set_1) | exact HI0.out)); (case side2 => repeat (first | (with_reducible first | exact HB.out | apply below_alloc | apply pw_below_drewN | apply below_drew1 | refine below_set ?_ (IsS70.ge HI0.out)) | exact HB.out)); rintro e w16 ⟨rfl, hi, hb, hk⟩; replace HO_4 := Aside0.mk (Kd.R_mono (Kd.R_keep (IsS70.apart (show IsS70 w0 _ g s0_0 t451 from by repeat (first | (with_reducible first | exact HI0.out | apply IsS70.alloc | apply IsS70.drewN | apply IsS70.drew | apply IsS70.set_1) | exact HI0.out)) (U HO_4.out) (by decide)) hk (fun _ h => h.2)) (fun _ h => h.1)); replace HO458 := Aside0.mk (Kd.R_mono (Kd.R_keep (IsS70.apart (show IsS70 w0 _ g s0_0 t451 from by repeat (first | (with_reducible first | exact HI0.out | apply IsS70.alloc | apply IsS70.drewN | apply IsS70.drew | apply IsS70.set_1) | exact HI0.out)) (U HO458.out) (by decide)) hk (fun _ h => h.2)) (fun _ h => h.1)); replace HK := Aside0.mk (KeepBut.trans KU hk (.inl rfl)); replace HB := Aside0.mk (hb); replace HI0 := Aside0.mk (hi); (try clear hb); (try clear hk); (try clear hi)))
          go_ret2
          exact ⟨_, _, by first | rfl | (simp [errW_none, errW_some] <;> rfl) | (simp [*, errW_none, errW_some] <;> rfl), Kd.RM HO_4.out (fun _ hk => hk.2), Kd.RM HO458.out (fun _ hk => hk.2), by repeat (first | (with_reducible first | exact HI0.out | apply IsS70.alloc | apply IsS70.drewN | apply IsS70.drew | apply IsS70.set_1) | exact HI0.out), by repeat (first | (with_reducible first | exact HB.out | apply below_alloc | apply pw_below_drewN | apply below_drew1 | refine below_set ?_ (IsS70.ge HI0.out)) | exact HB.out), by repeat (first | (with_reducible first | exact HK.out | apply KeepBut.set_ | apply keep_drewN | apply keep_drew | apply keep_alloc) | exact HK.out)⟩
        rw [if_neg c13] at H; have c13b0 : decide (0 < t459) = false := decide_eq_false c13; clear c13; obtain ⟨⟨t461, t464⟩, A17, H⟩ := bnd H; replace H : (some (x4_3, t461, t464)) = some (r1, r2, r3) := H; simp only [Option.some.injEq, Prod.mk.injEq] at H; obtain ⟨rfl, rfl, rfl⟩ := H; obtain ⟨Ao18, co18, eo18⟩ := Kd.R_slice HO_4.out; subst eo18
        go_wp2_with (first | ((with_reducible refine gate_callee (f := 59) rfl ?_); refine goesK (some 15) Try.func59 #[.slice Ao18 x4_3.length co18] ?_; (with_reducible refine (spec_ZeroFind.calls kj3 _ _ x4_3 t455 true _ ?side1 ?side2 A10.out).mono ?_); (case side1 => exact U ((Kd.R_reads' HO_4.out).2.2)); (case side2 => exact (Kd.R_reads' HO_4.out).2.1); rintro e w19 ⟨v457, rfl, ho0, hb⟩; refine ⟨_, rfl, ?_⟩; have HO458 := Aside0.mk (Kd.R_lower (Kd.R_new' ho0 (Kd.R_lt (U HO_4.out))) (keep_size (w := w) (g := g) (row := none) KU)); replace HO_4 := Aside0.mk (Kd.R_elder' (U HO_4.out) (Kd.R_base ho0) hb); replace HK := Aside0.mk (KeepBut.trans KU (KeepBut.of_below hb g none) (.inl rfl)); replace HB := Aside0.mk (below_step (by repeat (first | (with_reducible first | exact HB.out | apply below_alloc | apply pw_below_drewN | apply below_drew1 | refine below_set ?_ (IsS70.ge HI0.out)) | exact HB.out)) hb); replace HI0 := Aside0.mk (IsS70.below (by repeat (first | (with_reducible first | exact HI0.out | apply IsS70.alloc | apply IsS70.drewN | apply IsS70.drew | apply IsS70.set_1) | exact HI0.out)) hb); (try clear hb); (try clear ho0)) | (go_at_call 42; (with_reducible refine (spec_l6Rd_pick.calls kj3 g s0_0 t451 16 t459 t460 w0 _ ?side1 ?side2 A12.out).mono ?_); (case side1 => repeat (first | (with_reducible first | exact HI0.out | apply IsS70.alloc | apply IsS70.drewN | apply IsS70.drew | apply IsS70.set_1) | exact HI0.out)); (case side2 => repeat (first | (with_reducible first | exact HB.out | apply below_alloc | apply pw_below_drewN | apply below_drew1 | refine below_set ?_ (IsS70.ge HI0.out)) | exact HB.out)); rintro e w20 ⟨rfl, hi, hb, hk⟩; replace HO_4 := Aside0.mk (Kd.R_mono (Kd.R_keep (IsS70.apart (show IsS70 w0 _ g s0_0 t451 from by repeat (first | (with_reducible first | exact HI0.out | apply IsS70.alloc | apply IsS70.drewN | apply IsS70.drew | apply IsS70.set_1) | exact HI0.out)) (U HO_4.out) (by decide)) hk (fun _ h => h.2)) (fun _ h => h.1)); replace HO458 := Aside0.mk (Kd.R_mono (Kd.R_keep (IsS70.apart (show IsS70 w0 _ g s0_0 t451 from by repeat (first | (with_reducible first | exact HI0.out | apply IsS70.alloc | apply IsS70.drewN | apply IsS70.drew | apply IsS70.set_1) | exact HI0.out)) (U HO458.out) (by decide)) hk (fun _ h => h.2)) (fun _ h => h.1)); replace HK := Aside0.mk (KeepBut.trans KU hk (.inl rfl)); replace HB := Aside0.mk (hb); replace HI0 := Aside0.mk (hi); (try clear hb); (try clear hk); (try clear hi)) | ((with_reducible refine gate_callee (f := 41) rfl ?_); refine goesK (some 29) Try.func41 #[.pointer (some ⟨g, 0, none⟩), .slice Ao18 x4_3.length co18, .int .i64 3] ?_; (with_reducible refine (spec_l91Vector.calls kj3 g s0_0 t460 _ _ x4_3 3 t461 t464 w0 _ ?side1 ?side2 ?side3 ?side4 ?side5 A17.out).mono ?_); (case side1 => repeat (first | (with_reducible first | exact HI0.out | apply IsS70.alloc | apply IsS70.drewN | apply IsS70.drew | apply IsS70.set_1) | exact HI0.out)); (case side2 => repeat (first | (with_reducible first | exact HB.out | apply below_alloc | apply pw_below_drewN | apply below_drew1 | refine below_set ?_ (IsS70.ge HI0.out)) | exact HB.out)); (case side3 => exact U ((Kd.R_reads' HO_4.out).2.2)); (case side4 => exact (Kd.R_reads' HO_4.out).2.1); (case side5 => exact far_slice (IsS70.own_ne HI0.out HO_4.out (by decide))); rintro e w21 ⟨v462, rfl, ho0, hi, hb, hk⟩; refine ⟨_, rfl, ?_⟩; have HO463 := Aside0.mk (Kd.R_lower (Kd.R_new' (Kd.R_new' ho0 (Kd.R_lt (U HO_4.out))) (Kd.R_lt (U HO458.out))) (keep_size (w := w) (g := g) (row := none) KU)); replace HO_4 := Aside0.mk (Kd.R_mono (Kd.R_told (Kd.R_oldK (IsS70.apart (show IsS70 w0 _ g s0_0 t460 from by repeat (first | (with_reducible first | exact HI0.out | apply IsS70.alloc | apply IsS70.drewN | apply IsS70.drew | apply IsS70.set_1) | exact HI0.out)) (U HO_4.out) (by decide)) hk) (Kd.R_base ho0)) (fun _ h_ => h_.1)); replace HO458 := Aside0.mk (Kd.R_mono (Kd.R_told (Kd.R_oldK (IsS70.apart (show IsS70 w0 _ g s0_0 t460 from by repeat (first | (with_reducible first | exact HI0.out | apply IsS70.alloc | apply IsS70.drewN | apply IsS70.drew | apply IsS70.set_1) | exact HI0.out)) (U HO458.out) (by decide)) hk) (Kd.R_base ho0)) (fun _ h_ => h_.1)); replace HK := Aside0.mk (KeepBut.trans KU hk (.inl rfl)); replace HB := Aside0.mk (hb); replace HI0 := Aside0.mk (hi); (try clear hb); (try clear hk); (try clear hi); (try clear ho0)))
        go_ret2
        exact ⟨_, _, by first | rfl | (simp [errW_none, errW_some] <;> rfl) | (simp [*, errW_none, errW_some] <;> rfl), Kd.RM HO_4.out (fun _ hk => hk.2), Kd.RM HO463.out (fun _ hk => hk.1.2), by repeat (first | (with_reducible first | exact HI0.out | apply IsS70.alloc | apply IsS70.drewN | apply IsS70.drew | apply IsS70.set_1) | exact HI0.out), by repeat (first | (with_reducible first | exact HB.out | apply below_alloc | apply pw_below_drewN | apply below_drew1 | refine below_set ?_ (IsS70.ge HI0.out)) | exact HB.out), by repeat (first | (with_reducible first | exact HK.out | apply KeepBut.set_ | apply keep_drewN | apply keep_drew | apply keep_alloc) | exact HK.out)⟩
      replace c11 := Bool.eq_false_iff.mpr c11; subst c11; replace H := ifF H; obtain ⟨⟨t465, t468⟩, A22, H⟩ := bnd H; replace H : (some (x4_3, t465, t468)) = some (r1, r2, r3) := H; simp only [Option.some.injEq, Prod.mk.injEq] at H; obtain ⟨rfl, rfl, rfl⟩ := H; obtain ⟨Ao23, co23, eo23⟩ := Kd.R_slice HO_4.out; subst eo23
      go_wp2_with (first | ((with_reducible refine gate_callee (f := 59) rfl ?_); refine goesK (some 15) Try.func59 #[.slice Ao23 x4_3.length co23] ?_; (with_reducible refine (spec_ZeroFind.calls kj3 _ _ x4_3 t455 false _ ?side1 ?side2 A10.out).mono ?_); (case side1 => exact U ((Kd.R_reads' HO_4.out).2.2)); (case side2 => exact (Kd.R_reads' HO_4.out).2.1); rintro e w24 ⟨v457, rfl, ho0, hb⟩; refine ⟨_, rfl, ?_⟩; have HO458 := Aside0.mk (Kd.R_lower (Kd.R_new' ho0 (Kd.R_lt (U HO_4.out))) (keep_size (w := w) (g := g) (row := none) KU)); replace HO_4 := Aside0.mk (Kd.R_elder' (U HO_4.out) (Kd.R_base ho0) hb); replace HK := Aside0.mk (KeepBut.trans KU (KeepBut.of_below hb g none) (.inl rfl)); replace HB := Aside0.mk (below_step (by repeat (first | (with_reducible first | exact HB.out | apply below_alloc | apply pw_below_drewN | apply below_drew1 | refine below_set ?_ (IsS70.ge HI0.out)) | exact HB.out)) hb); replace HI0 := Aside0.mk (IsS70.below (by repeat (first | (with_reducible first | exact HI0.out | apply IsS70.alloc | apply IsS70.drewN | apply IsS70.drew | apply IsS70.set_1) | exact HI0.out)) hb); (try clear hb); (try clear ho0)) | ((with_reducible refine gate_callee (f := 41) rfl ?_); refine goesK (some 29) Try.func41 #[.pointer (some ⟨g, 0, none⟩), .slice Ao23 x4_3.length co23, .int .i64 3] ?_; (with_reducible refine (spec_l91Vector.calls kj3 g s0_0 t451 _ _ x4_3 3 t465 t468 w0 _ ?side1 ?side2 ?side3 ?side4 ?side5 A22.out).mono ?_); (case side1 => repeat (first | (with_reducible first | exact HI0.out | apply IsS70.alloc | apply IsS70.drewN | apply IsS70.drew | apply IsS70.set_1) | exact HI0.out)); (case side2 => repeat (first | (with_reducible first | exact HB.out | apply below_alloc | apply pw_below_drewN | apply below_drew1 | refine below_set ?_ (IsS70.ge HI0.out)) | exact HB.out)); (case side3 => exact U ((Kd.R_reads' HO_4.out).2.2)); (case side4 => exact (Kd.R_reads' HO_4.out).2.1); (case side5 => exact far_slice (IsS70.own_ne HI0.out HO_4.out (by decide))); rintro e w25 ⟨v466, rfl, ho0, hi, hb, hk⟩; refine ⟨_, rfl, ?_⟩; have HO467 := Aside0.mk (Kd.R_lower (Kd.R_new' (Kd.R_new' ho0 (Kd.R_lt (U HO_4.out))) (Kd.R_lt (U HO458.out))) (keep_size (w := w) (g := g) (row := none) KU)); replace HO_4 := Aside0.mk (Kd.R_mono (Kd.R_told (Kd.R_oldK (IsS70.apart (show IsS70 w0 _ g s0_0 t451 from by repeat (first | (with_reducible first | exact HI0.out | apply IsS70.alloc | apply IsS70.drewN | apply IsS70.drew | apply IsS70.set_1) | exact HI0.out)) (U HO_4.out) (by decide)) hk) (Kd.R_base ho0)) (fun _ h_ => h_.1)); replace HO458 := Aside0.mk (Kd.R_mono (Kd.R_told (Kd.R_oldK (IsS70.apart (show IsS70 w0 _ g s0_0 t451 from by repeat (first | (with_reducible first | exact HI0.out | apply IsS70.alloc | apply IsS70.drewN | apply IsS70.drew | apply IsS70.set_1) | exact HI0.out)) (U HO458.out) (by decide)) hk) (Kd.R_base ho0)) (fun _ h_ => h_.1)); replace HK := Aside0.mk (KeepBut.trans KU hk (.inl rfl)); replace HB := Aside0.mk (hb); replace HI0 := Aside0.mk (hi); (try clear hb); (try clear hk); (try clear hi); (try clear ho0)))
      go_ret2
      exact ⟨_, _, by first | rfl | (simp [errW_none, errW_some] <;> rfl) | (simp [*, errW_none, errW_some] <;> rfl), Kd.RM HO_4.out (fun _ hk => hk.2), Kd.RM HO467.out (fun _ hk => hk.1.2), by repeat (first | (with_reducible first | exact HI0.out | apply IsS70.alloc | apply IsS70.drewN | apply IsS70.drew | apply IsS70.set_1) | exact HI0.out), by repeat (first | (with_reducible first | exact HB.out | apply below_alloc | apply pw_below_drewN | apply below_drew1 | refine below_set ?_ (IsS70.ge HI0.out)) | exact HB.out), by repeat (first | (with_reducible first | exact HK.out | apply KeepBut.set_ | apply keep_drewN | apply keep_drew | apply keep_alloc) | exact HK.out)⟩

/-! ### spec_l6Open: function 29 -/
def spec_l6Open.f (l0 : List Int) : Option (List Int × Int) := if (l0.length : Int) > 2000 then (if 2000 ≤ (l0.length : Int) then (some (l0.take 2000, 0)) else (none)) else (some (l0, 0))
set_option maxHeartbeats 8000000 in
set_option maxRecDepth 100000 in
theorem spec_l6Open.calls (A0 : Option Addr) (c0 : Nat) (l0 : List Int) (r1 : List Int) (r2 : Int) (w0 w : World) (hB : Below w0.heap.size w0 w) (hr0 : Kd.C (Kd.int .u8) w0 A0 l0.length l0) (hc0 : l0.length ≤ c0) (h : spec_l6Open.f l0 = some (r1, r2)) :
    Calls Try.prog 29 #[.slice A0 l0.length c0] w fun e w' => ∃ g_ : Nat, e = .returned (.pointer (some ⟨g_, 0, none⟩)) ∧ IsS70 w0 w' g_ r1 r2 ∧ Below w0.heap.size w0 w' ∧ Below w.heap.size w w' := by
  have hu70 := Try.underlying70; have HR0 := Aside0.mk hr0; have HC0 := Aside0.mk hc0; clear hr0 hc0; have HBW := Aside0.mk (Below.refl w.heap.size w); have HW0 := Aside0.mk hB.size; have HB := Aside0.mk hB; clear hB; unfold spec_l6Open.f at h; have H := h; clear h
  by_cases c2 : (l0.length : Int) > 2000
  · rw [if_pos c2] at H
    have c2b0 : decide (2000 < (l0.length : Int)) = true := decide_eq_true c2; have c2b1 : decide (2000 < l0.length) = true := decide_eq_true (by omega); clear c2; obtain ⟨c3, H⟩ := ifN H; have c3b0 := eq_true c3; have c3b1 : decide (2000 ≤ (l0.length : Int)) = true := decide_eq_true c3; clear c3; simp only [Option.some.injEq, Prod.mk.injEq] at H; obtain ⟨rfl, rfl⟩ := H; obtain ⟨i04, hi04, _, hsz4, _⟩ := info_parts info5; obtain ⟨hcut4, hA4, hC4⟩ := print_take_of (P := Try.prog) (Value.int .u8) 0 22 5 .i64 Try.underlying22 hi04 hsz4 A0 c0 l0 2000 (by omega) (oD) HC0.out; have HR469 := Aside0.mk (Kd.C_of_reads (h1 := fun _ => rfl) (hA4 _ (Kd.reads_of_C HR0.out))); have HC469 := Aside0.mk hC4; clear hA4 hC4 hi04 hsz4; go_enter Try.func29, Try.ntmps29
    go_wp2_with (first | ((with_reducible refine gate_dst (N := 10) rfl ?_); refine boxE (N := 10) (cs := #[.slice A0 (l0.take 2000).length c0, .int .i64 0]) (t := 70) ?_; intro gb470 hg w5 hbox hb; replace HB := BS hb; have BK470 := Aside0.mk (hbox); have GW470 := Aside0.mk ((by rw [hg]; exact (below_size (by repeat (first | (with_reducible first | exact HBW.out | apply below_alloc | apply pw_below_drewN | apply below_drew1) | exact HBW.out))) : w.heap.size ≤ gb470)); have GE470 := Aside0.mk ((Nat.le_trans HW0.out (by rw [hg]; exact (below_size (by repeat (first | (with_reducible first | exact HBW.out | apply below_alloc | apply pw_below_drewN | apply below_drew1) | exact HBW.out))) : w.heap.size ≤ gb470) : w0.heap.size ≤ gb470)); replace HBW := Aside0.mk (below_step HBW.out hb); clear hb hbox hg))
    go_ret
    exact ⟨_, rfl, (show IsS70 w0 _ gb470 (l0.take 2000) 0 from ⟨_, _, U BK470.out, GE470.out, HR469.out⟩), BU, by repeat (first | (with_reducible first | exact HBW.out | apply below_alloc | apply pw_below_drewN | apply below_drew1 | refine below_set ?_ GW470.out) | exact HBW.out)⟩
  rw [if_neg c2] at H; have c2b0 : decide (2000 < (l0.length : Int)) = false := decide_eq_false c2; have c2b1 : decide (2000 < l0.length) = false := decide_eq_false (by omega); clear c2; simp only [Option.some.injEq, Prod.mk.injEq] at H; obtain ⟨rfl, rfl⟩ := H; go_enter Try.func29, Try.ntmps29
  go_wp2_with (first | ((with_reducible refine gate_dst (N := 10) rfl ?_); refine boxE (N := 10) (cs := #[.slice A0 l0.length c0, .int .i64 0]) (t := 70) ?_; intro gb471 hg w6 hbox hb; replace HB := BS hb; have BK471 := Aside0.mk (hbox); have GW471 := Aside0.mk ((by rw [hg]; exact (below_size (by repeat (first | (with_reducible first | exact HBW.out | apply below_alloc | apply pw_below_drewN | apply below_drew1) | exact HBW.out))) : w.heap.size ≤ gb471)); have GE471 := Aside0.mk ((Nat.le_trans HW0.out (by rw [hg]; exact (below_size (by repeat (first | (with_reducible first | exact HBW.out | apply below_alloc | apply pw_below_drewN | apply below_drew1) | exact HBW.out))) : w.heap.size ≤ gb471) : w0.heap.size ≤ gb471)); replace HBW := Aside0.mk (below_step HBW.out hb); clear hb hbox hg))
  go_ret
  exact ⟨_, rfl, (show IsS70 w0 _ gb471 l0 0 from ⟨_, _, U BK471.out, GE471.out, HR0.out⟩), BU, by repeat (first | (with_reducible first | exact HBW.out | apply below_alloc | apply pw_below_drewN | apply below_drew1 | refine below_set ?_ GW471.out) | exact HBW.out)⟩

/-! ### spec_DrawConicAt: function 20 -/
def spec_DrawConicAt.f (k : Nat) (l0 : List Int) : Option (List Int × List Int × Int × Int) := (spec_l6Open.f l0).bind fun bt472 => ((spec_l92Point.f k bt472.1 bt472.2).bind fun bt475 => ((spec_l6Rd_pick.f k bt472.1 bt475.2.2 11).bind fun bt482 => ((spec_l6Rd_pick.f k bt472.1 bt482.2 9).bind fun bt484 => (some (bt475.1, bt475.2.1, wrap64 (bt482.1 - 5), wrap64 (bt484.1 - 4))))))
theorem spec_DrawConicAt.mono : ∀ a0 k, LeO (spec_DrawConicAt.f k a0) (spec_DrawConicAt.f (k + 1) a0) := by
  intro a0 k
  unfold spec_DrawConicAt.f
  repeat' first
      | (with_reducible exact spec_l6Rd_pick.mono _ _ _ _)
      | (with_reducible exact spec_l92Point.mono _ _ _)
      | (with_reducible exact LeO.refl _)
      | (with_reducible exact LeO.none _)
      | (with_reducible refine LeO.ite ?_ ?_)
      | (with_reducible refine LeO.bind ?_ (fun _ => ?_))
      | exact spec_l6Rd_pick.mono _ _ _ _
      | exact spec_l92Point.mono _ _ _
      | exact LeO.none _
      | refine LeO.ite ?_ ?_
      | refine LeO.bind ?_ (fun _ => ?_)
set_option maxHeartbeats 8000000 in
set_option maxRecDepth 100000 in
theorem spec_DrawConicAt.calls (k : Nat) (A0 : Option Addr) (c0 : Nat) (l0 : List Int) (r1 : List Int) (r2 : List Int) (r3 : Int) (r4 : Int) (w : World) (hr0 : Kd.C (Kd.int .u8) w A0 l0.length l0) (hc0 : l0.length ≤ c0) (h : spec_DrawConicAt.f k l0 = some (r1, r2, r3, r4)) :
    Calls Try.prog 20 #[.slice A0 l0.length c0] w fun e w' => ∃ v0_ v1_ : Value, e = .returned (.tuple #[v0_, v1_, .int .i64 r3, .int .i64 r4]) ∧ Kd.R (Kd.int .i64) 3 w' w.heap.size (fun k_ => some k_ ≠ (v1_ : Value).ownBlock) v0_ r1 ∧ Kd.R (Kd.int .i64) 3 w' w.heap.size (fun k_ => some k_ ≠ (v0_ : Value).ownBlock) v1_ r2 ∧ Below w.heap.size w w' := by
  have HR0 := Aside0.mk hr0; have HC0 := Aside0.mk hc0; clear hr0 hc0; have HB := Aside0.mk (Below.refl w.heap.size w); unfold spec_DrawConicAt.f at h; have H := h; clear h; obtain ⟨⟨t472, t473⟩, A2, H⟩ := bnd H
  replace H : ((spec_l92Point.f k t472 t473).bind fun bt475 => ((spec_l6Rd_pick.f k t472 bt475.2.2 11).bind fun bt482 => ((spec_l6Rd_pick.f k t472 bt482.2 9).bind fun bt484 => (some (bt475.1, bt475.2.1, wrap64 (bt482.1 - 5), wrap64 (bt484.1 - 4)))))) = some (r1, r2, r3, r4) := H
  obtain ⟨⟨t475, t478, t481⟩, A3, H⟩ := bnd H
  replace H : ((spec_l6Rd_pick.f k t472 t481 11).bind fun bt482 => ((spec_l6Rd_pick.f k t472 bt482.2 9).bind fun bt484 => (some (t475, t478, wrap64 (bt482.1 - 5), wrap64 (bt484.1 - 4))))) = some (r1, r2, r3, r4) := H
  obtain ⟨⟨t482, t483⟩, A4, H⟩ := bnd H; replace H : ((spec_l6Rd_pick.f k t472 t483 9).bind fun bt484 => (some (t475, t478, wrap64 (t482 - 5), wrap64 (bt484.1 - 4)))) = some (r1, r2, r3, r4) := H; obtain ⟨⟨t484, t485⟩, A5, H⟩ := bnd H; replace H : (some (t475, t478, wrap64 (t482 - 5), wrap64 (t484 - 4))) = some (r1, r2, r3, r4) := H; simp only [Option.some.injEq, Prod.mk.injEq] at H; obtain ⟨rfl, rfl, rfl, rfl⟩ := H; go_enter Try.func20, Try.ntmps20
  go_wp2_with (first | ((with_reducible refine gate_callee (f := 29) rfl ?_); refine goesK (some 10) Try.func29 #[.slice A0 l0.length c0] ?_; (with_reducible refine (spec_l6Open.calls _ _ l0 t472 t473 w _ ?side1 ?side2 ?side3 A2.out).mono ?_); (case side1 => repeat (first | (with_reducible first | exact HB.out | apply below_alloc | apply pw_below_drewN | apply below_drew1) | exact HB.out | exact Below.refl _ _)); (case side2 => exact HR0.out); (case side3 => exact HC0.out); rintro e w6 ⟨g474, rfl, hi, hb, hb2⟩; refine ⟨_, rfl, ?_⟩; replace HB := Aside0.mk (hb); have HI474 := Aside0.mk (hi); (try clear hb); (try clear hb2); (try clear hi)) | ((with_reducible refine gate_callee (f := 28) rfl ?_); refine goesK (some 13) Try.func28 #[.pointer (some ⟨g474, 0, none⟩)] ?_; (with_reducible refine (spec_l92Point.calls k g474 t472 t473 t475 t478 t481 w _ ?side1 ?side2 A3.out).mono ?_); (case side1 => repeat (first | (with_reducible first | exact HI474.out | apply IsS70.alloc | apply IsS70.drewN | apply IsS70.drew | apply IsS70.set_1) | exact HI474.out)); (case side2 => repeat (first | (with_reducible first | exact HB.out | apply below_alloc | apply pw_below_drewN | apply below_drew1 | refine below_set ?_ (IsS70.ge HI474.out)) | exact HB.out)); rintro e w7 ⟨v476, v479, rfl, ho0, ho1, hi, hb, hk⟩; refine ⟨_, rfl, ?_⟩; have HO477 := Aside0.mk (Kd.R_lower ho0 (below_size (by repeat (first | (with_reducible first | exact HB.out | apply below_alloc | apply pw_below_drewN | apply below_drew1 | refine below_set ?_ (IsS70.ge HI474.out)) | exact HB.out)))); have HO480 := Aside0.mk (Kd.R_lower ho1 (below_size (by repeat (first | (with_reducible first | exact HB.out | apply below_alloc | apply pw_below_drewN | apply below_drew1 | refine below_set ?_ (IsS70.ge HI474.out)) | exact HB.out)))); replace HB := Aside0.mk (hb); replace HI474 := Aside0.mk (hi); (try clear hb); (try clear hk); (try clear hi); (try clear ho0); (try clear ho1)) | ((with_reducible refine gate_callee (f := 42) rfl ?_); refine goesK (some 19) Try.func42 #[.pointer (some ⟨g474, 0, none⟩), .int .i64 11] ?_; (with_reducible refine (spec_l6Rd_pick.calls k g474 t472 t481 11 t482 t483 w _ ?side1 ?side2 A4.out).mono ?_); (case side1 => repeat (first | (with_reducible first | exact HI474.out | apply IsS70.alloc | apply IsS70.drewN | apply IsS70.drew | apply IsS70.set_1) | exact HI474.out)); (case side2 => repeat (first | (with_reducible first | exact HB.out | apply below_alloc | apply pw_below_drewN | apply below_drew1 | refine below_set ?_ (IsS70.ge HI474.out)) | exact HB.out)); rintro e w8 ⟨rfl, hi, hb, hk⟩; refine ⟨_, rfl, ?_⟩; replace HO477 := Aside0.mk (Kd.R_mono (Kd.R_keep (IsS70.apart (show IsS70 w _ g474 t472 t481 from by repeat (first | (with_reducible first | exact HI474.out | apply IsS70.alloc | apply IsS70.drewN | apply IsS70.drew | apply IsS70.set_1) | exact HI474.out)) (U HO477.out) (by decide)) hk (fun _ h => h.2)) (fun _ h => h.1)); replace HO480 := Aside0.mk (Kd.R_mono (Kd.R_keep (IsS70.apart (show IsS70 w _ g474 t472 t481 from by repeat (first | (with_reducible first | exact HI474.out | apply IsS70.alloc | apply IsS70.drewN | apply IsS70.drew | apply IsS70.set_1) | exact HI474.out)) (U HO480.out) (by decide)) hk (fun _ h => h.2)) (fun _ h => h.1)); replace HB := Aside0.mk (hb); replace HI474 := Aside0.mk (hi); (try clear hb); (try clear hk); (try clear hi)) | ((with_reducible refine gate_callee (f := 42) rfl ?_); refine goesK (some 22) Try.func42 #[.pointer (some ⟨g474, 0, none⟩), .int .i64 9] ?_; (with_reducible refine (spec_l6Rd_pick.calls k g474 t472 t483 9 t484 t485 w _ ?side1 ?side2 A5.out).mono ?_); (case side1 => repeat (first | (with_reducible first | exact HI474.out | apply IsS70.alloc | apply IsS70.drewN | apply IsS70.drew | apply IsS70.set_1) | exact HI474.out)); (case side2 => repeat (first | (with_reducible first | exact HB.out | apply below_alloc | apply pw_below_drewN | apply below_drew1 | refine below_set ?_ (IsS70.ge HI474.out)) | exact HB.out)); rintro e w9 ⟨rfl, hi, hb, hk⟩; refine ⟨_, rfl, ?_⟩; replace HO477 := Aside0.mk (Kd.R_mono (Kd.R_keep (IsS70.apart (show IsS70 w _ g474 t472 t483 from by repeat (first | (with_reducible first | exact HI474.out | apply IsS70.alloc | apply IsS70.drewN | apply IsS70.drew | apply IsS70.set_1) | exact HI474.out)) (U HO477.out) (by decide)) hk (fun _ h => h.2)) (fun _ h => h.1)); replace HO480 := Aside0.mk (Kd.R_mono (Kd.R_keep (IsS70.apart (show IsS70 w _ g474 t472 t483 from by repeat (first | (with_reducible first | exact HI474.out | apply IsS70.alloc | apply IsS70.drewN | apply IsS70.drew | apply IsS70.set_1) | exact HI474.out)) (U HO480.out) (by decide)) hk (fun _ h => h.2)) (fun _ h => h.1)); replace HB := Aside0.mk (hb); replace HI474 := Aside0.mk (hi); (try clear hb); (try clear hk); (try clear hi)))
  refine bodyPost_ret (results_list (rs := [.tmp 2, .tmp 3, .tmp 4, .tmp 5]) rfl (by simp) (.tmp (.tmp (.tmp (.tmp .nil))))) rfl ?_
  exact ⟨_, _, by first | rfl | (simp [errW_none, errW_some] <;> rfl) | (simp [*, errW_none, errW_some] <;> rfl), U HO477.out, U HO480.out, by repeat (first | (with_reducible first | exact HB.out | apply below_alloc | apply pw_below_drewN | apply below_drew1 | refine below_set ?_ (IsS70.ge HI474.out)) | exact HB.out)⟩

/-! ### spec_l4Vector: function 44 -/
def spec_l4Vector.l0 : Nat → List Int → List Int → Int → Int → Option (Bool)
  | 0, _, _, _, _ => none
  | k + 1, x0, x1, x2, x7 => if x7 < (x1.length : Int) then (if 0 ≤ x7 then ((spec_l6In.f (rd x1 x7) (wrap64 (-x2)) x2).bind fun t487 => (if t487 = true then (spec_l4Vector.l0 k x0 x1 x2 (wrap64 (x7 + 1))) else (some false))) else (none)) else ((spec_FormValid.f k x0).bind fun t488 => (if t488 = true then (some ((x1.length : Int) == (x0.length : Int))) else (some false)))
def spec_l4Vector.f (k : Nat) (l0 : List Int) (l1 : List Int) (a2 : Int) : Option (Bool) := spec_l4Vector.l0 k l0 l1 a2 0
theorem spec_l4Vector.mono_l : ∀ k, (∀ y0 y1 y2 y3, LeO (spec_l4Vector.l0 k y0 y1 y2 y3) (spec_l4Vector.l0 (k + 1) y0 y1 y2 y3))
  | 0 => fun _ _ _ _ r h => by simp [spec_l4Vector.l0] at h
  | k + 1 => by
    have ih0 := spec_l4Vector.mono_l k
    · intro y0 y1 y2 y3
      unfold spec_l4Vector.l0
      repeat' first
      | (with_reducible exact ih0 _ _ _ _)
      | (with_reducible exact spec_FormValid.mono _ _)
      | (with_reducible exact LeO.refl _)
      | (with_reducible exact LeO.none _)
      | (with_reducible refine LeO.ite ?_ ?_)
      | (with_reducible refine LeO.bind ?_ (fun _ => ?_))
      | exact ih0 _ _ _ _
      | exact spec_FormValid.mono _ _
      | exact LeO.none _
      | refine LeO.ite ?_ ?_
      | refine LeO.bind ?_ (fun _ => ?_)
theorem spec_l4Vector.mono : ∀ a0 a1 a2 k, LeO (spec_l4Vector.f k a0 a1 a2) (spec_l4Vector.f (k + 1) a0 a1 a2) := by
  intro a0 a1 a2 k
  have ih0 := spec_l4Vector.mono_l k
  unfold spec_l4Vector.f
  repeat' first
      | (with_reducible exact ih0 _ _ _ _)
      | (with_reducible exact spec_FormValid.mono _ _)
      | (with_reducible exact LeO.refl _)
      | (with_reducible exact LeO.none _)
      | (with_reducible refine LeO.ite ?_ ?_)
      | (with_reducible refine LeO.bind ?_ (fun _ => ?_))
      | exact ih0 _ _ _ _
      | exact spec_FormValid.mono _ _
      | exact LeO.none _
      | refine LeO.ite ?_ ?_
      | refine LeO.bind ?_ (fun _ => ?_)
set_option maxHeartbeats 8000000 in
set_option maxRecDepth 100000 in
theorem spec_l4Vector.calls (k : Nat) (A0 : Option Addr) (c0 : Nat) (l0 : List Int) (A1 : Option Addr) (c1 : Nat) (l1 : List Int) (a2 : Int) (r : Bool) (w : World) (hr0 : Kd.C (Kd.int .i64) w A0 l0.length l0) (hc0 : l0.length ≤ c0) (hr1 : Kd.C (Kd.int .i64) w A1 l1.length l1) (hc1 : l1.length ≤ c1) (h : spec_l4Vector.f k l0 l1 a2 = some r) :
    Calls Try.prog 44 #[.slice A0 l0.length c0, .slice A1 l1.length c1, .int .i64 a2] w fun e w' => e = .returned (.bool r) ∧ Drawn0 w w' := by
  have HR0 := Aside0.mk hr0; have HC0 := Aside0.mk hc0; clear hr0 hc0; have HR1 := Aside0.mk hr1; have HC1 := Aside0.mk hc1; clear hr1 hc1; unfold spec_l4Vector.f at h; have H := h; clear h; have H' := Aside0.mk H; clear H; go_enter Try.func44, Try.ntmps44
  go_wp2
  go_loopg [7] k (fun kq v7 w' => ∃ (x7_1 : Int), v7 = .int .i64 x7_1 ∧ Aside0 (spec_l4Vector.l0 kq l0 l1 a2 x7_1 = some r) ∧ Aside0 (kq ≤ k) ∧ Drawn0 w w')
  case atStart => exact ⟨(0), sR, H', ⟨Nat.le_refl _⟩, by repeat (first | exact Drawn0.refl _ | apply Drawn0.step)⟩
  case round =>
    clear H'; obtain ⟨x7_1, rfl, HA, HK1, ⟨m1, rfl⟩⟩ := hrel; cases gk with
    | zero => exact absurd HA.out (by simp [spec_l4Vector.l0])
    | succ k1 =>
      have H := HA.out; clear HA; simp only [spec_l4Vector.l0] at H
      by_cases c4 : x7_1 < (l1.length : Int)
      · rw [if_pos c4] at H
        have c4b0 : decide (x7_1 < (l1.length : Int)) = true := decide_eq_true c4; clear c4; obtain ⟨c5, H⟩ := ifN H; have c5b0 : decide (0 ≤ x7_1) = true := decide_eq_true c5; clear c5; obtain ⟨t487, A6, H⟩ := bnd H
        by_cases c7 : t487 = true
        · subst c7
          replace H := ifT H; have H' := Aside0.mk H; clear H; have p486 : 0 ≤ (x7_1 : Int) := oD; have q486 : x7_1 < (l1.length : Int) := oD; obtain ⟨ad486, e486, hx486_0⟩ := Kd.at_int HR1.out x7_1 p486 q486; cases e486; replace p486 := eq_true p486; replace q486 := eq_true q486
          go_wp2_with (first | ((with_reducible refine gate_callee (f := 56) rfl ?_); refine goesK (some 21) Try.func56 #[.int .i64 (rd l1 x7_1), .int .i64 (wrap64 (-a2)), .int .i64 a2] ?_; (with_reducible refine (spec_l6In.calls (rd l1 x7_1) (wrap64 (-a2)) a2 true _ A6.out).mono ?_); rintro e w' ⟨rfl, ⟨nd, rfl⟩⟩; refine ⟨_, rfl, ?_⟩))
          go_roundg k1
          case measure => have := HK1.out; omega
          case rel => exact ⟨(wrap64 (x7_1 + 1)), sR, H', ⟨by have := HK1.out; omega⟩, by repeat (first | exact Drawn0.refl _ | apply Drawn0.step)⟩
        replace c7 := Bool.eq_false_iff.mpr c7; subst c7; replace H := ifF H; obtain rfl := Option.some.inj H; have p486 : 0 ≤ (x7_1 : Int) := oD; have q486 : x7_1 < (l1.length : Int) := oD; obtain ⟨ad486, e486, hx486_0⟩ := Kd.at_int HR1.out x7_1 p486 q486; cases e486; replace p486 := eq_true p486; replace q486 := eq_true q486
        go_wp2_with (first | ((with_reducible refine gate_callee (f := 56) rfl ?_); refine goesK (some 21) Try.func56 #[.int .i64 (rd l1 x7_1), .int .i64 (wrap64 (-a2)), .int .i64 a2] ?_; (with_reducible refine (spec_l6In.calls (rd l1 x7_1) (wrap64 (-a2)) a2 false _ A6.out).mono ?_); rintro e w' ⟨rfl, ⟨nd, rfl⟩⟩; refine ⟨_, rfl, ?_⟩))
        go_ret
        exact ⟨by first | rfl | (simp; done) | (simp [*]; done), by repeat (first | exact Drawn0.refl _ | apply Drawn0.step)⟩
      rw [if_neg c4] at H; have c4b0 : decide (x7_1 < (l1.length : Int)) = false := decide_eq_false c4; clear c4; obtain ⟨t488, A8, H⟩ := bnd H
      by_cases c9 : t488 = true
      · subst c9
        replace H := ifT H; obtain rfl := Option.some.inj H
        go_wp2_with (first | ((with_reducible refine gate_callee (f := 63) rfl ?_); refine goesK (some 24) Try.func63 #[.slice A0 l0.length c0] ?_; (with_reducible refine (spec_FormValid.calls k1 _ _ l0 true _ ?side1 ?side2 A8.out).mono ?_); (case side1 => exact U HR0.out); (case side2 => exact HC0.out); rintro e w' ⟨rfl, ⟨nd, rfl⟩⟩; refine ⟨_, rfl, ?_⟩))
        go_ret
        exact ⟨by first | rfl | (simp; done) | (simp [*]; done), by repeat (first | exact Drawn0.refl _ | apply Drawn0.step)⟩
      replace c9 := Bool.eq_false_iff.mpr c9; subst c9; replace H := ifF H; obtain rfl := Option.some.inj H
      go_wp2_with (first | ((with_reducible refine gate_callee (f := 63) rfl ?_); refine goesK (some 24) Try.func63 #[.slice A0 l0.length c0] ?_; (with_reducible refine (spec_FormValid.calls k1 _ _ l0 false _ ?side1 ?side2 A8.out).mono ?_); (case side1 => exact U HR0.out); (case side2 => exact HC0.out); rintro e w' ⟨rfl, ⟨nd, rfl⟩⟩; refine ⟨_, rfl, ?_⟩))
      go_ret
      exact ⟨by first | rfl | (simp; done) | (simp [*]; done), by repeat (first | exact Drawn0.refl _ | apply Drawn0.step)⟩

/-! ### spec_l4Value: function 46 -/
def spec_l4Value.l0 : Nat → List Int → List Int → Int → Int → Option (Int)
  | 0, _, _, _, _ => none
  | k + 1, x0, x1, x5, x6 => if x6 < (x0.length : Int) then (if 0 ≤ x6 then (if x6 < (x1.length : Int) then (spec_l4Value.l0 k x0 x1 (wrap64 (x5 + (wrap64 ((wrap64 ((rd x0 x6) * (rd x1 x6))) * (rd x1 x6))))) (wrap64 (x6 + 1))) else (none)) else (none)) else (some x5)
def spec_l4Value.f (k : Nat) (l0 : List Int) (l1 : List Int) : Option (Int) := spec_l4Value.l0 k l0 l1 0 0
theorem spec_l4Value.mono_l : ∀ k, (∀ y0 y1 y2 y3, LeO (spec_l4Value.l0 k y0 y1 y2 y3) (spec_l4Value.l0 (k + 1) y0 y1 y2 y3))
  | 0 => fun _ _ _ _ r h => by simp [spec_l4Value.l0] at h
  | k + 1 => by
    have ih0 := spec_l4Value.mono_l k
    · intro y0 y1 y2 y3
      unfold spec_l4Value.l0
      repeat' first
      | (with_reducible exact ih0 _ _ _ _)
      | (with_reducible exact LeO.refl _)
      | (with_reducible exact LeO.none _)
      | (with_reducible refine LeO.ite ?_ ?_)
      | (with_reducible refine LeO.bind ?_ (fun _ => ?_))
      | exact ih0 _ _ _ _
      | exact LeO.none _
      | refine LeO.ite ?_ ?_
      | refine LeO.bind ?_ (fun _ => ?_)
theorem spec_l4Value.mono : ∀ a0 a1 k, LeO (spec_l4Value.f k a0 a1) (spec_l4Value.f (k + 1) a0 a1) := by
  intro a0 a1 k
  have ih0 := spec_l4Value.mono_l k
  unfold spec_l4Value.f
  repeat' first
      | (with_reducible exact ih0 _ _ _ _)
      | (with_reducible exact LeO.refl _)
      | (with_reducible exact LeO.none _)
      | (with_reducible refine LeO.ite ?_ ?_)
      | (with_reducible refine LeO.bind ?_ (fun _ => ?_))
      | exact ih0 _ _ _ _
      | exact LeO.none _
      | refine LeO.ite ?_ ?_
      | refine LeO.bind ?_ (fun _ => ?_)
set_option maxHeartbeats 8000000 in
set_option maxRecDepth 100000 in
theorem spec_l4Value.calls (k : Nat) (A0 : Option Addr) (c0 : Nat) (l0 : List Int) (A1 : Option Addr) (c1 : Nat) (l1 : List Int) (r : Int) (w : World) (hr0 : Kd.C (Kd.int .i64) w A0 l0.length l0) (hc0 : l0.length ≤ c0) (hr1 : Kd.C (Kd.int .i64) w A1 l1.length l1) (hc1 : l1.length ≤ c1) (h : spec_l4Value.f k l0 l1 = some r) :
    Calls Try.prog 46 #[.slice A0 l0.length c0, .slice A1 l1.length c1] w fun e w' => e = .returned (.int .i64 r) ∧ Drawn0 w w' := by
  have HR0 := Aside0.mk hr0; have HC0 := Aside0.mk hc0; clear hr0 hc0; have HR1 := Aside0.mk hr1; have HC1 := Aside0.mk hc1; clear hr1 hc1; unfold spec_l4Value.f at h; have H := h; clear h; have H' := Aside0.mk H; clear H; go_enter Try.func46, Try.ntmps46
  go_wp2
  repeat (go_quiet (fail); try go_wp2)
  go_loopg [5, 6] k (fun kq v5 v6 w' => ∃ (x5_1 : Int) (x6_1 : Int), v5 = .int .i64 x5_1 ∧ v6 = .int .i64 x6_1 ∧ Aside0 (spec_l4Value.l0 kq l0 l1 x5_1 x6_1 = some r) ∧ Aside0 (kq ≤ k) ∧ Drawn0 w w')
  case atStart => exact ⟨(0), (0), sR, sR, H', ⟨Nat.le_refl _⟩, by repeat (first | exact Drawn0.refl _ | apply Drawn0.step)⟩
  case round =>
    clear H'; obtain ⟨x5_1, x6_1, rfl, rfl, HA, HK1, ⟨m1, rfl⟩⟩ := hrel; cases gk with
    | zero => exact absurd HA.out (by simp [spec_l4Value.l0])
    | succ k1 =>
      have H := HA.out; clear HA; simp only [spec_l4Value.l0] at H
      by_cases c3 : x6_1 < (l0.length : Int)
      · rw [if_pos c3] at H
        have c3b0 : decide (x6_1 < (l0.length : Int)) = true := decide_eq_true c3; clear c3; obtain ⟨c4, H⟩ := ifN H; have c4b0 : decide (0 ≤ x6_1) = true := decide_eq_true c4; clear c4; obtain ⟨c5, H⟩ := ifN H; have c5b0 : decide (x6_1 < (l1.length : Int)) = true := decide_eq_true c5; clear c5; have H' := Aside0.mk H; clear H; have p489 : 0 ≤ (x6_1 : Int) := oD; have q489 : x6_1 < (l0.length : Int) := oD; obtain ⟨ad489, e489, hx489_0⟩ := Kd.at_int HR0.out x6_1 p489 q489; cases e489; replace p489 := eq_true p489; replace q489 := eq_true q489; have p490 : 0 ≤ (x6_1 : Int) := oD; have q490 : x6_1 < (l1.length : Int) := oD; obtain ⟨ad490, e490, hx490_0⟩ := Kd.at_int HR1.out x6_1 p490 q490; cases e490; replace p490 := eq_true p490; replace q490 := eq_true q490; have p491 : 0 ≤ (x6_1 : Int) := oD; have q491 : x6_1 < (l1.length : Int) := oD; obtain ⟨ad491, e491, hx491_0⟩ := Kd.at_int HR1.out x6_1 p491 q491; obtain rfl : ad490 = ad491 := (by injection e491); replace p491 := eq_true p491; replace q491 := eq_true q491
        go_wp2
        repeat (go_quiet (fail); try go_wp2)
        go_roundg k1
        case measure => have := HK1.out; omega
        case rel => exact ⟨(wrap64 (x5_1 + (wrap64 ((wrap64 ((rd l0 x6_1) * (rd l1 x6_1))) * (rd l1 x6_1))))), (wrap64 (x6_1 + 1)), sR, sR, H', ⟨by have := HK1.out; omega⟩, by repeat (first | exact Drawn0.refl _ | apply Drawn0.step)⟩
      rw [if_neg c3] at H; have c3b0 : decide (x6_1 < (l0.length : Int)) = false := decide_eq_false c3; clear c3; obtain rfl := Option.some.inj H
      go_wp2
      repeat (go_quiet (fail); try go_wp2)
      go_ret
      exact ⟨by first | rfl | (simp; done) | (simp [*]; done), by repeat (first | exact Drawn0.refl _ | apply Drawn0.step)⟩

/-! ### spec_l5Some: function 61 -/
def spec_l5Some.l0 : Nat → List Int → Int → Option (Bool)
  | 0, _, _ => none
  | k + 1, x0, x3 => if x3 < (x0.length : Int) then (if 0 ≤ x3 then (if (rd x0 x3) = 0 then (spec_l5Some.l0 k x0 (wrap64 (x3 + 1))) else (some true)) else (none)) else (some false)
def spec_l5Some.f (k : Nat) (l0 : List Int) : Option (Bool) := spec_l5Some.l0 k l0 0
theorem spec_l5Some.mono_l : ∀ k, (∀ y0 y1, LeO (spec_l5Some.l0 k y0 y1) (spec_l5Some.l0 (k + 1) y0 y1))
  | 0 => fun _ _ r h => by simp [spec_l5Some.l0] at h
  | k + 1 => by
    have ih0 := spec_l5Some.mono_l k
    · intro y0 y1
      unfold spec_l5Some.l0
      repeat' first
      | (with_reducible exact ih0 _ _)
      | (with_reducible exact LeO.refl _)
      | (with_reducible exact LeO.none _)
      | (with_reducible refine LeO.ite ?_ ?_)
      | (with_reducible refine LeO.bind ?_ (fun _ => ?_))
      | exact ih0 _ _
      | exact LeO.none _
      | refine LeO.ite ?_ ?_
      | refine LeO.bind ?_ (fun _ => ?_)
theorem spec_l5Some.mono : ∀ a0 k, LeO (spec_l5Some.f k a0) (spec_l5Some.f (k + 1) a0) := by
  intro a0 k
  have ih0 := spec_l5Some.mono_l k
  unfold spec_l5Some.f
  repeat' first
      | (with_reducible exact ih0 _ _)
      | (with_reducible exact LeO.refl _)
      | (with_reducible exact LeO.none _)
      | (with_reducible refine LeO.ite ?_ ?_)
      | (with_reducible refine LeO.bind ?_ (fun _ => ?_))
      | exact ih0 _ _
      | exact LeO.none _
      | refine LeO.ite ?_ ?_
      | refine LeO.bind ?_ (fun _ => ?_)
set_option maxHeartbeats 8000000 in
set_option maxRecDepth 100000 in
theorem spec_l5Some.calls (k : Nat) (A0 : Option Addr) (c0 : Nat) (l0 : List Int) (r : Bool) (w : World) (hr0 : Kd.C (Kd.int .i64) w A0 l0.length l0) (hc0 : l0.length ≤ c0) (h : spec_l5Some.f k l0 = some r) :
    Calls Try.prog 61 #[.slice A0 l0.length c0] w fun e w' => e = .returned (.bool r) ∧ Drawn0 w w' := by
  have HR0 := Aside0.mk hr0; have HC0 := Aside0.mk hc0; clear hr0 hc0; unfold spec_l5Some.f at h; have H := h; clear h; have H' := Aside0.mk H; clear H; go_enter Try.func61, Try.ntmps61
  go_wp2
  go_loopg [3] k (fun kq v3 w' => ∃ (x3_1 : Int), v3 = .int .i64 x3_1 ∧ Aside0 (spec_l5Some.l0 kq l0 x3_1 = some r) ∧ Aside0 (kq ≤ k) ∧ Drawn0 w w')
  case atStart => exact ⟨(0), sR, H', ⟨Nat.le_refl _⟩, by repeat (first | exact Drawn0.refl _ | apply Drawn0.step)⟩
  case round =>
    clear H'; obtain ⟨x3_1, rfl, HA, HK1, ⟨m1, rfl⟩⟩ := hrel; cases gk with
    | zero => exact absurd HA.out (by simp [spec_l5Some.l0])
    | succ k1 =>
      have H := HA.out; clear HA; simp only [spec_l5Some.l0] at H
      by_cases c2 : x3_1 < (l0.length : Int)
      · rw [if_pos c2] at H
        have c2b0 : decide (x3_1 < (l0.length : Int)) = true := decide_eq_true c2; clear c2; obtain ⟨c3, H⟩ := ifN H; have c3b0 : decide (0 ≤ x3_1) = true := decide_eq_true c3; clear c3
        by_cases c4 : (rd l0 x3_1) = 0
        · rw [if_pos c4] at H
          have c4b0 : ((rd l0 x3_1) == 0) = true := beq_iff_eq.mpr c4; have c4b1 : ((rd l0 x3_1) != 0) = false := bne_eq_false_iff_eq.mpr c4; clear c4; have H' := Aside0.mk H; clear H; have p492 : 0 ≤ (x3_1 : Int) := oD; have q492 : x3_1 < (l0.length : Int) := oD; obtain ⟨ad492, e492, hx492_0⟩ := Kd.at_int HR0.out x3_1 p492 q492; cases e492; replace p492 := eq_true p492; replace q492 := eq_true q492
          go_wp2
          go_roundg k1
          case measure => have := HK1.out; omega
          case rel => exact ⟨(wrap64 (x3_1 + 1)), sR, H', ⟨by have := HK1.out; omega⟩, by repeat (first | exact Drawn0.refl _ | apply Drawn0.step)⟩
        rw [if_neg c4] at H; have c4b0 : ((rd l0 x3_1) == 0) = false := beq_eq_false_iff_ne.mpr c4; have c4b1 : ((rd l0 x3_1) != 0) = true := bne_iff_ne.mpr c4; obtain rfl := Option.some.inj H; have p492 : 0 ≤ (x3_1 : Int) := oD; have q492 : x3_1 < (l0.length : Int) := oD; obtain ⟨ad492, e492, hx492_0⟩ := Kd.at_int HR0.out x3_1 p492 q492; cases e492; replace p492 := eq_true p492; replace q492 := eq_true q492
        go_wp2
        go_ret
        exact ⟨by first | rfl | (simp; done) | (simp [*]; done), by repeat (first | exact Drawn0.refl _ | apply Drawn0.step)⟩
      rw [if_neg c2] at H; have c2b0 : decide (x3_1 < (l0.length : Int)) = false := decide_eq_false c2; clear c2; obtain rfl := Option.some.inj H
      go_wp2
      go_ret
      exact ⟨by first | rfl | (simp; done) | (simp [*]; done), by repeat (first | exact Drawn0.refl _ | apply Drawn0.step)⟩

end Go.Proofs.Ytpaohkhmhdhibaa.PFnAt
