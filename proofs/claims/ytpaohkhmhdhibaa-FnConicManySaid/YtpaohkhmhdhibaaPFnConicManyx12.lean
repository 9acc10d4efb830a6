-- Written by a program of this session (wip/print2.py): the functions that the law reaches, plain, and the walks.
import Derived.Test.YtpaohkhmhdhibaaPFnConicManyx0
import Derived.Test.YtpaohkhmhdhibaaPFnConicManyx1
import Derived.Test.YtpaohkhmhdhibaaPFnConicManyx2
import Derived.Test.YtpaohkhmhdhibaaPFnConicManyx4
import Derived.Test.YtpaohkhmhdhibaaPFnConicManyx5
import Derived.Test.YtpaohkhmhdhibaaPFnConicManyx6
import Derived.Test.YtpaohkhmhdhibaaPFnConicManyx7
import Derived.Test.YtpaohkhmhdhibaaPFnConicManyx10
import Derived.Test.YtpaohkhmhdhibaaPFnConicManyx11
namespace Go.Proofs.Ytpaohkhmhdhibaa.PFnConicMany
open Go.RowKit Go.Proofs.YtpaohkhmhdhibaaW.PrintWords Go.Proofs.YtpaohkhmhdhibaaW.PrintLast Go.Proofs.YtpaohkhmhdhibaaW.PrintMore
attribute [local go_sem] max2_int min2_int max_two min_two max_three min_three max_four min_four   -- for this text's walks alone
set_option linter.unusedVariables false
set_option linter.unusedSimpArgs false

/-! ### spec_ZeroFind: function 59 -/
def spec_ZeroFind.f (k : Nat) (l0 : List Int) : Option (List Int × Bool) := (spec_FormValid.f k l0).bind fun t386 => (if t386 = true then (if (l0.length : Int) = 2 then (if 0 < (l0.length : Int) then ((spec_l1Core.f k (rd l0 0)).bind fun bt391 => (if 1 < (l0.length : Int) then ((spec_l1Core.f k (rd l0 1)).bind fun bt394 => (if (wrap64 (bt391.1 + bt394.1)) = 0 then ((spec_l5Plain.f k (([bt394.2, bt391.2] : List Int))).bind fun t399 => (some (t399, true))) else (some ((([] : List Int)), false)))) else (none))) else (none)) else (if (l0.length : Int) = 3 then ((spec_l5Three.f k l0).bind fun bt405 => (some (bt405.1, bt405.2))) else (if (l0.length : Int) = 4 then ((spec_l5Four.f k l0).bind fun bt409 => (some (bt409.1, bt409.2))) else (some ((([] : List Int)), false))))) else (some ((([] : List Int)), false)))
theorem spec_ZeroFind.mono : ∀ a0 k, LeO (spec_ZeroFind.f k a0) (spec_ZeroFind.f (k + 1) a0) := by
  intro a0 k
  unfold spec_ZeroFind.f
  repeat' first
      | (with_reducible exact spec_FormValid.mono _ _)
      | (with_reducible exact spec_l1Core.mono _ _)
      | (with_reducible exact spec_l5Four.mono _ _)
      | (with_reducible exact spec_l5Plain.mono _ _)
      | (with_reducible exact spec_l5Three.mono _ _)
      | (with_reducible exact LeO.refl _)
      | (with_reducible exact LeO.none _)
      | (with_reducible refine LeO.ite ?_ ?_)
      | (with_reducible refine LeO.bind ?_ (fun _ => ?_))
      | exact spec_FormValid.mono _ _
      | exact spec_l1Core.mono _ _
      | exact spec_l5Four.mono _ _
      | exact spec_l5Plain.mono _ _
      | exact spec_l5Three.mono _ _
      | exact LeO.none _
      | refine LeO.ite ?_ ?_
      | refine LeO.bind ?_ (fun _ => ?_)
set_option maxHeartbeats 8000000 in
set_option maxRecDepth 100000 in
theorem spec_ZeroFind.calls (k : Nat) (A0 : Option Addr) (c0 : Nat) (l0 : List Int) (r1 : List Int) (r2 : Bool) (w : World) (hr0 : Kd.C (Kd.int .i64) w A0 l0.length l0) (hc0 : l0.length ≤ c0) (h : spec_ZeroFind.f k l0 = some (r1, r2)) :
    Calls Try.prog 59 #[.slice A0 l0.length c0] w fun e w' => ∃ v0_ : Value, e = .returned (.tuple #[v0_, .bool r2]) ∧ Kd.R (Kd.int .i64) 3 w' w.heap.size (fun _ => True) v0_ r1 ∧ Below w.heap.size w w' := by
  have HR0 := Aside0.mk hr0; have HC0 := Aside0.mk hc0; clear hr0 hc0; have HB := Aside0.mk (Below.refl w.heap.size w); unfold spec_ZeroFind.f at h; have H := h; clear h; obtain ⟨t386, A2, H⟩ := bnd H
  by_cases c3 : t386 = true
  · subst c3
    replace H := ifT H
    by_cases c4 : (l0.length : Int) = 2
    · rw [if_pos c4] at H
      have c4b0 : ((l0.length : Int) == 2) = true := beq_iff_eq.mpr c4; have c4b1 : ((l0.length : Int) != 2) = false := bne_eq_false_iff_eq.mpr c4; clear c4; obtain ⟨c5, H⟩ := ifN H; have c5b0 : decide (0 < (l0.length : Int)) = true := decide_eq_true c5; have c5b1 : decide (0 < l0.length) = true := decide_eq_true (by omega); clear c5; obtain ⟨⟨t391, t392⟩, A6, H⟩ := bnd H
      replace H : (if 1 < (l0.length : Int) then ((spec_l1Core.f k (rd l0 1)).bind fun bt394 => (if (wrap64 (t391 + bt394.1)) = 0 then ((spec_l5Plain.f k (([bt394.2, t392] : List Int))).bind fun t399 => (some (t399, true))) else (some ((([] : List Int)), false)))) else (none)) = some (r1, r2) := H
      obtain ⟨c7, H⟩ := ifN H; have c7b0 : decide (1 < (l0.length : Int)) = true := decide_eq_true c7; have c7b1 : decide (1 < l0.length) = true := decide_eq_true (by omega); clear c7; obtain ⟨⟨t394, t395⟩, A8, H⟩ := bnd H; replace H : (if (wrap64 (t391 + t394)) = 0 then ((spec_l5Plain.f k (([t395, t392] : List Int))).bind fun t399 => (some (t399, true))) else (some ((([] : List Int)), false))) = some (r1, r2) := H
      by_cases c9 : (wrap64 (t391 + t394)) = 0
      · rw [if_pos c9] at H
        have c9b0 : ((wrap64 (t391 + t394)) == 0) = true := beq_iff_eq.mpr c9; have c9b1 : ((wrap64 (t391 + t394)) != 0) = false := bne_eq_false_iff_eq.mpr c9; clear c9; obtain ⟨y396, hy396⟩ : ∃ y_ : List Int, y_ = (([t395, t392] : List Int)) := ⟨_, rfl⟩; replace H : ((spec_l5Plain.f k y396).bind fun t399 => (some (t399, true))) = some (r1, r2) := rH hy396 H; have Ny396 := Aside0.mk hy396; clear hy396; obtain ⟨t399, A10, H⟩ := bnd H; simp only [Option.some.injEq, Prod.mk.injEq] at H; obtain ⟨rfl, rfl⟩ := H; go_enter Try.func59, Try.ntmps59
        go_wp2_with (first | ((with_reducible refine gate_callee (f := 63) rfl ?_); refine goesK (some 9) Try.func63 #[.slice A0 l0.length c0] ?_; (with_reducible refine (spec_FormValid.calls k _ _ l0 true _ ?side1 ?side2 A2.out).mono ?_); (case side1 => exact U HR0.out); (case side2 => exact HC0.out); rintro e w' ⟨rfl, ⟨nd, rfl⟩⟩; refine ⟨_, rfl, ?_⟩; have p390 : 0 ≤ (0 : Int) := (by omega); have q390 : 0 < (l0.length : Int) := oD; obtain ⟨ad390, e390, hx390_0⟩ := Kd.at_int HR0.out 0 p390 q390; cases e390; have qi390 : (0 < l0.length) = True := eq_true (by omega); (try rw [show ((0 : Int)).toNat = 0 from rfl] at hx390_0); (try rw [Addr.add_zero'] at hx390_0); replace p390 := eq_true p390; replace q390 := eq_true q390) | ((with_reducible refine gate_callee (f := 67) rfl ?_); refine goesK (some 20) Try.func67 #[.int .i64 (rd l0 0)] ?_; (with_reducible refine (spec_l1Core.calls k (rd l0 0) t391 t392 _ A6.out).mono ?_); rintro e w11 ⟨rfl, hb⟩; refine ⟨_, rfl, ?_⟩; replace HB := BS hb; (try clear hb); have p393 : 0 ≤ (1 : Int) := (by omega); have q393 : 1 < (l0.length : Int) := oD; obtain ⟨ad393, e393, hx393_0⟩ := Kd.at_int HR0.out 1 p393 q393; obtain rfl : ad390 = ad393 := (by injection e393); (try simp only [show (1 : Int).toNat = 1 from rfl, Nat.reduceMul, Nat.reduceEqDiff, Go.Addr.add, ↓reduceIte] at hx393_0); have qi393 : (1 < l0.length) = True := eq_true (by omega); (try rw [show ((1 : Int)).toNat = 1 from rfl] at hx393_0); replace hx393_0 := (HB.out.cell (World.block_lt_of_cell? w _ hx393_0)).trans hx393_0; replace p393 := eq_true p393; replace q393 := eq_true q393) | ((with_reducible refine gate_callee (f := 67) rfl ?_); refine goesK (some 27) Try.func67 #[.int .i64 (rd l0 1)] ?_; (with_reducible refine (spec_l1Core.calls k (rd l0 1) t394 t395 _ A8.out).mono ?_); rintro e w12 ⟨rfl, hb⟩; refine ⟨_, rfl, ?_⟩; replace HB := BS hb; (try clear hb)) | ((with_reducible refine gate_dst (N := 36) rfl ?_); refine Kd.R_lit (Kd.int .i64) _ 3 ?hg (N := 36) ?hd (xs := ([t395, t392] : List Int)) (inner := [.int .i64 t395, .int .i64 t392]) (ok := fun _ => True) (okp := fun _ => True) ?hr ?hp (fun _ hk => hk) trivial (Below.refl _ _) (Nat.le_refl _) (by simp) ?_; (case hd => rfl); (case hg => rfl); (case hr => first | (go_simp; done) | (go_simp; rfl)); (case hp => exact (Reps.one (show Kd.M (Kd.int .i64) _ _ _ t395 [.int .i64 t395] from rfl) (Reps.one (show Kd.M (Kd.int .i64) _ _ _ t392 [.int .i64 t392] from rfl) (Reps.none _ _)))); intro v397 w13 ho14 hb hg_ hnew_; clear hg_ hnew_; (first | rw [← Ny396.out] at ho14 | (simp only [Int.reduceToNat] at ho14; rw [← Ny396.out] at ho14)); have HO398 := Aside0.mk (Kd.R_lower ho14 (below_size BU)); replace HB := BS hb; clear hb ho14; obtain ⟨Ao15, co15, eo15⟩ := Kd.R_slice HO398.out; subst eo15) | ((with_reducible refine gate_callee (f := 48) rfl ?_); refine goesK (some 37) Try.func48 #[.slice Ao15 y396.length co15] ?_; (with_reducible refine (spec_l5Plain.calls k _ _ y396 t399 _ ?side1 ?side2 A10.out).mono ?_); (case side1 => exact U ((Kd.R_reads' HO398.out).2.2)); (case side2 => exact (Kd.R_reads' HO398.out).2.1); rintro e w16 ⟨v400, rfl, ho0, hb⟩; refine ⟨_, rfl, ?_⟩; have HO401 := Aside0.mk (Kd.R_lower (Kd.R_new' ho0 (Kd.R_lt (U HO398.out))) (below_size BU)); replace HO398 := Aside0.mk (Kd.R_elder' (U HO398.out) (Kd.R_base ho0) hb); replace HB := BS hb; (try clear hb); (try clear ho0)))
        go_ret2
        exact ⟨_, eR, Kd.RM HO401.out (fun _ hk => trivial), BU⟩
      rw [if_neg c9] at H; have c9b0 : ((wrap64 (t391 + t394)) == 0) = false := beq_eq_false_iff_ne.mpr c9; have c9b1 : ((wrap64 (t391 + t394)) != 0) = true := bne_iff_ne.mpr c9; obtain ⟨y402, hy402⟩ : ∃ y_ : List Int, y_ = (([] : List Int)) := ⟨_, rfl⟩; replace H : (some (y402, false)) = some (r1, r2) := rH hy402 H; have Ny402 := Aside0.mk hy402; clear hy402; simp only [Option.some.injEq, Prod.mk.injEq] at H; obtain ⟨rfl, rfl⟩ := H; go_enter Try.func59, Try.ntmps59
      go_wp2_with (first | ((with_reducible refine gate_callee (f := 63) rfl ?_); refine goesK (some 9) Try.func63 #[.slice A0 l0.length c0] ?_; (with_reducible refine (spec_FormValid.calls k _ _ l0 true _ ?side1 ?side2 A2.out).mono ?_); (case side1 => exact U HR0.out); (case side2 => exact HC0.out); rintro e w' ⟨rfl, ⟨nd, rfl⟩⟩; refine ⟨_, rfl, ?_⟩; have p390 : 0 ≤ (0 : Int) := (by omega); have q390 : 0 < (l0.length : Int) := oD; obtain ⟨ad390, e390, hx390_0⟩ := Kd.at_int HR0.out 0 p390 q390; cases e390; have qi390 : (0 < l0.length) = True := eq_true (by omega); (try rw [show ((0 : Int)).toNat = 0 from rfl] at hx390_0); (try rw [Addr.add_zero'] at hx390_0); replace p390 := eq_true p390; replace q390 := eq_true q390) | ((with_reducible refine gate_callee (f := 67) rfl ?_); refine goesK (some 20) Try.func67 #[.int .i64 (rd l0 0)] ?_; (with_reducible refine (spec_l1Core.calls k (rd l0 0) t391 t392 _ A6.out).mono ?_); rintro e w17 ⟨rfl, hb⟩; refine ⟨_, rfl, ?_⟩; replace HB := BS hb; (try clear hb); have p393 : 0 ≤ (1 : Int) := (by omega); have q393 : 1 < (l0.length : Int) := oD; obtain ⟨ad393, e393, hx393_0⟩ := Kd.at_int HR0.out 1 p393 q393; obtain rfl : ad390 = ad393 := (by injection e393); (try simp only [show (1 : Int).toNat = 1 from rfl, Nat.reduceMul, Nat.reduceEqDiff, Go.Addr.add, ↓reduceIte] at hx393_0); have qi393 : (1 < l0.length) = True := eq_true (by omega); (try rw [show ((1 : Int)).toNat = 1 from rfl] at hx393_0); replace hx393_0 := (HB.out.cell (World.block_lt_of_cell? w _ hx393_0)).trans hx393_0; replace p393 := eq_true p393; replace q393 := eq_true q393) | ((with_reducible refine gate_callee (f := 67) rfl ?_); refine goesK (some 27) Try.func67 #[.int .i64 (rd l0 1)] ?_; (with_reducible refine (spec_l1Core.calls k (rd l0 1) t394 t395 _ A8.out).mono ?_); rintro e w18 ⟨rfl, hb⟩; refine ⟨_, rfl, ?_⟩; replace HB := BS hb; (try clear hb)) | ((with_reducible refine gate_dst (N := 50) rfl ?_); refine Kd.R_lit (Kd.int .i64) _ 3 ?hg (N := 50) ?hd (xs := ([] : List Int)) (inner := []) (ok := fun _ => True) (okp := fun _ => True) ?hr ?hp (fun _ hk => hk) trivial (Below.refl _ _) (Nat.le_refl _) (by simp) ?_; (case hd => rfl); (case hg => rfl); (case hr => first | (go_simp; done) | (go_simp; rfl)); (case hp => exact (Reps.none _ _)); intro v403 w19 ho20 hb hg_ hnew_; clear hg_ hnew_; (first | rw [← Ny402.out] at ho20 | (simp only [Int.reduceToNat] at ho20; rw [← Ny402.out] at ho20)); have HO404 := Aside0.mk (Kd.R_lower ho20 (below_size BU)); replace HB := BS hb; clear hb ho20))
      go_ret2
      exact ⟨_, eR, U HO404.out, BU⟩
    rw [if_neg c4] at H; have c4b0 : ((l0.length : Int) == 2) = false := beq_eq_false_iff_ne.mpr c4; have c4b1 : ((l0.length : Int) != 2) = true := bne_iff_ne.mpr c4
    by_cases c21 : (l0.length : Int) = 3
    · rw [if_pos c21] at H
      have c21b0 : ((l0.length : Int) == 3) = true := beq_iff_eq.mpr c21; have c21b1 : ((l0.length : Int) != 3) = false := bne_eq_false_iff_eq.mpr c21; clear c21; obtain ⟨⟨t405, t406⟩, A22, H⟩ := bnd H; replace H : (some (t405, t406)) = some (r1, r2) := H; simp only [Option.some.injEq, Prod.mk.injEq] at H; obtain ⟨rfl, rfl⟩ := H; go_enter Try.func59, Try.ntmps59
      go_wp2_with (first | ((with_reducible refine gate_callee (f := 63) rfl ?_); refine goesK (some 9) Try.func63 #[.slice A0 l0.length c0] ?_; (with_reducible refine (spec_FormValid.calls k _ _ l0 true _ ?side1 ?side2 A2.out).mono ?_); (case side1 => exact U HR0.out); (case side2 => exact HC0.out); rintro e w' ⟨rfl, ⟨nd, rfl⟩⟩; refine ⟨_, rfl, ?_⟩) | ((with_reducible refine gate_callee (f := 68) rfl ?_); refine goesK (some 41) Try.func68 #[.slice A0 l0.length c0] ?_; (with_reducible refine (spec_l5Three.calls k _ _ l0 t405 t406 _ ?side1 ?side2 A22.out).mono ?_); (case side1 => exact U HR0.out); (case side2 => exact HC0.out); rintro e w23 ⟨v407, rfl, ho0, hb⟩; refine ⟨_, rfl, ?_⟩; have HO408 := Aside0.mk (Kd.R_lower ho0 (below_size BU)); replace HB := BS hb; (try clear hb); (try clear ho0)))
      go_ret2
      exact ⟨_, eR, U HO408.out, BU⟩
    rw [if_neg c21] at H; have c21b0 : ((l0.length : Int) == 3) = false := beq_eq_false_iff_ne.mpr c21; have c21b1 : ((l0.length : Int) != 3) = true := bne_iff_ne.mpr c21
    by_cases c24 : (l0.length : Int) = 4
    · rw [if_pos c24] at H
      have c24b0 : ((l0.length : Int) == 4) = true := beq_iff_eq.mpr c24; have c24b1 : ((l0.length : Int) != 4) = false := bne_eq_false_iff_eq.mpr c24; clear c24; obtain ⟨⟨t409, t410⟩, A25, H⟩ := bnd H; replace H : (some (t409, t410)) = some (r1, r2) := H; simp only [Option.some.injEq, Prod.mk.injEq] at H; obtain ⟨rfl, rfl⟩ := H; go_enter Try.func59, Try.ntmps59
      go_wp2_with (first | ((with_reducible refine gate_callee (f := 63) rfl ?_); refine goesK (some 9) Try.func63 #[.slice A0 l0.length c0] ?_; (with_reducible refine (spec_FormValid.calls k _ _ l0 true _ ?side1 ?side2 A2.out).mono ?_); (case side1 => exact U HR0.out); (case side2 => exact HC0.out); rintro e w' ⟨rfl, ⟨nd, rfl⟩⟩; refine ⟨_, rfl, ?_⟩) | ((with_reducible refine gate_callee (f := 69) rfl ?_); refine goesK (some 47) Try.func69 #[.slice A0 l0.length c0] ?_; (with_reducible refine (spec_l5Four.calls k _ _ l0 t409 t410 _ ?side1 ?side2 A25.out).mono ?_); (case side1 => exact U HR0.out); (case side2 => exact HC0.out); rintro e w26 ⟨v411, rfl, ho0, hb⟩; refine ⟨_, rfl, ?_⟩; have HO412 := Aside0.mk (Kd.R_lower ho0 (below_size BU)); replace HB := BS hb; (try clear hb); (try clear ho0)))
      go_ret2
      exact ⟨_, eR, U HO412.out, BU⟩
    rw [if_neg c24] at H; have c24b0 : ((l0.length : Int) == 4) = false := beq_eq_false_iff_ne.mpr c24; have c24b1 : ((l0.length : Int) != 4) = true := bne_iff_ne.mpr c24; obtain ⟨y413, hy413⟩ : ∃ y_ : List Int, y_ = (([] : List Int)) := ⟨_, rfl⟩; replace H : (some (y413, false)) = some (r1, r2) := rH hy413 H; have Ny413 := Aside0.mk hy413; clear hy413; simp only [Option.some.injEq, Prod.mk.injEq] at H; obtain ⟨rfl, rfl⟩ := H; go_enter Try.func59, Try.ntmps59
    go_wp2_with (first | ((with_reducible refine gate_callee (f := 63) rfl ?_); refine goesK (some 9) Try.func63 #[.slice A0 l0.length c0] ?_; (with_reducible refine (spec_FormValid.calls k _ _ l0 true _ ?side1 ?side2 A2.out).mono ?_); (case side1 => exact U HR0.out); (case side2 => exact HC0.out); rintro e w' ⟨rfl, ⟨nd, rfl⟩⟩; refine ⟨_, rfl, ?_⟩) | ((with_reducible refine gate_dst (N := 50) rfl ?_); refine Kd.R_lit (Kd.int .i64) _ 3 ?hg (N := 50) ?hd (xs := ([] : List Int)) (inner := []) (ok := fun _ => True) (okp := fun _ => True) ?hr ?hp (fun _ hk => hk) trivial (Below.refl _ _) (Nat.le_refl _) (by simp) ?_; (case hd => rfl); (case hg => rfl); (case hr => first | (go_simp; done) | (go_simp; rfl)); (case hp => exact (Reps.none _ _)); intro v414 w27 ho28 hb hg_ hnew_; clear hg_ hnew_; (first | rw [← Ny413.out] at ho28 | (simp only [Int.reduceToNat] at ho28; rw [← Ny413.out] at ho28)); have HO415 := Aside0.mk (Kd.R_lower ho28 (below_size BU)); replace HB := BS hb; clear hb ho28))
    go_ret2
    exact ⟨_, eR, U HO415.out, BU⟩
  replace c3 := Bool.eq_false_iff.mpr c3; subst c3; replace H := ifF H; obtain ⟨y387, hy387⟩ : ∃ y_ : List Int, y_ = (([] : List Int)) := ⟨_, rfl⟩; replace H : (some (y387, false)) = some (r1, r2) := rH hy387 H; have Ny387 := Aside0.mk hy387; clear hy387; simp only [Option.some.injEq, Prod.mk.injEq] at H; obtain ⟨rfl, rfl⟩ := H; go_enter Try.func59, Try.ntmps59
  go_wp2_with (first | ((with_reducible refine gate_callee (f := 63) rfl ?_); refine goesK (some 9) Try.func63 #[.slice A0 l0.length c0] ?_; (with_reducible refine (spec_FormValid.calls k _ _ l0 false _ ?side1 ?side2 A2.out).mono ?_); (case side1 => exact U HR0.out); (case side2 => exact HC0.out); rintro e w' ⟨rfl, ⟨nd, rfl⟩⟩; refine ⟨_, rfl, ?_⟩) | ((with_reducible refine gate_dst (N := 11) rfl ?_); refine Kd.R_lit (Kd.int .i64) _ 3 ?hg (N := 11) ?hd (xs := ([] : List Int)) (inner := []) (ok := fun _ => True) (okp := fun _ => True) ?hr ?hp (fun _ hk => hk) trivial (Below.refl _ _) (Nat.le_refl _) (by simp) ?_; (case hd => rfl); (case hg => rfl); (case hr => first | (go_simp; done) | (go_simp; rfl)); (case hp => exact (Reps.none _ _)); intro v388 w29 ho30 hb hg_ hnew_; clear hg_ hnew_; (first | rw [← Ny387.out] at ho30 | (simp only [Int.reduceToNat] at ho30; rw [← Ny387.out] at ho30)); have HO389 := Aside0.mk (Kd.R_lower ho30 (below_size BU)); replace HB := BS hb; clear hb ho30))
  go_ret2
  exact ⟨_, eR, U HO389.out, BU⟩

/-! ### spec_l92Point: function 28 -/
def spec_l92Point.j0 : Nat → List Int → List Int → Int → Option (List Int × List Int × Int)
  | 0, _, _, _ => none
  | k + 1, x4, x1000, x1001 => (spec_ZeroFind.f k x4).bind fun bt425 => (if bt425.2 = true then ((spec_l6Rd_pick.f k x1000 x1001 16).bind fun bt429 => (if bt429.1 > 0 then (some (x4, bt425.1, bt429.2)) else ((spec_l91Vector.f k x1000 bt429.2 x4 3).bind fun bt431 => (some (x4, bt431.1, bt431.2))))) else ((spec_l91Vector.f k x1000 x1001 x4 3).bind fun bt435 => (some (x4, bt435.1, bt435.2))))
def spec_l92Point.f (k : Nat) (s0_0 : List Int) (s0_1 : Int) : Option (List Int × List Int × Int) := (spec_l92Form.f k s0_0 s0_1 3).bind fun bt416 => ((spec_l6Rd_pick.f k s0_0 bt416.2 4).bind fun bt420 => (if bt420.1 = 0 then (spec_l92Point.j0 k (([1, 1, (-1)] : List Int)) s0_0 bt420.2) else (spec_l92Point.j0 k bt416.1 s0_0 bt420.2)))
theorem spec_l92Point.mono_l : ∀ k, (∀ y0 y1 y2, LeO (spec_l92Point.j0 k y0 y1 y2) (spec_l92Point.j0 (k + 1) y0 y1 y2))
  | 0 => fun _ _ _ r h => by simp [spec_l92Point.j0] at h
  | k + 1 => by
    have ih0 := spec_l92Point.mono_l k
    · intro y0 y1 y2
      unfold spec_l92Point.j0
      repeat' first
      | (with_reducible exact ih0 _ _ _)
      | (with_reducible exact spec_ZeroFind.mono _ _)
      | (with_reducible exact spec_l6Rd_pick.mono _ _ _ _)
      | (with_reducible exact spec_l91Vector.mono _ _ _ _ _)
      | (with_reducible exact spec_l92Form.mono _ _ _ _)
      | (with_reducible exact LeO.refl _)
      | (with_reducible exact LeO.none _)
      | (with_reducible refine LeO.ite ?_ ?_)
      | (with_reducible refine LeO.bind ?_ (fun _ => ?_))
      | exact ih0 _ _ _
      | exact spec_ZeroFind.mono _ _
      | exact spec_l6Rd_pick.mono _ _ _ _
      | exact spec_l91Vector.mono _ _ _ _ _
      | exact spec_l92Form.mono _ _ _ _
      | exact LeO.none _
      | refine LeO.ite ?_ ?_
      | refine LeO.bind ?_ (fun _ => ?_)
theorem spec_l92Point.mono : ∀ a0 a1 k, LeO (spec_l92Point.f k a0 a1) (spec_l92Point.f (k + 1) a0 a1) := by
  intro a0 a1 k
  have ih0 := spec_l92Point.mono_l k
  unfold spec_l92Point.f
  repeat' first
      | (with_reducible exact ih0 _ _ _)
      | (with_reducible exact spec_ZeroFind.mono _ _)
      | (with_reducible exact spec_l6Rd_pick.mono _ _ _ _)
      | (with_reducible exact spec_l91Vector.mono _ _ _ _ _)
      | (with_reducible exact spec_l92Form.mono _ _ _ _)
      | (with_reducible exact LeO.refl _)
      | (with_reducible exact LeO.none _)
      | (with_reducible refine LeO.ite ?_ ?_)
      | (with_reducible refine LeO.bind ?_ (fun _ => ?_))
      | exact ih0 _ _ _
      | exact spec_ZeroFind.mono _ _
      | exact spec_l6Rd_pick.mono _ _ _ _
      | exact spec_l91Vector.mono _ _ _ _ _
      | exact spec_l92Form.mono _ _ _ _
      | exact LeO.none _
      | refine LeO.ite ?_ ?_
      | refine LeO.bind ?_ (fun _ => ?_)
set_option maxHeartbeats 8000000 in
set_option maxRecDepth 100000 in
theorem spec_l92Point.calls (k : Nat) (g : Nat) (s0_0 : List Int) (s0_1 : Int) (r1 : List Int) (r2 : List Int) (r3 : Int) (w0 w : World) (hI : IsS70 w0 w g s0_0 s0_1) (hB : Below w0.heap.size w0 w) (h : spec_l92Point.f k s0_0 s0_1 = some (r1, r2, r3)) :
    Calls Try.prog 28 #[.pointer (some ⟨g, 0, none⟩)] w fun e w' => ∃ v0_ v1_ : Value, e = .returned (.tuple #[v0_, v1_]) ∧ Kd.R (Kd.int .i64) 3 w' w.heap.size (fun k_ => some k_ ≠ (v1_ : Value).ownBlock) v0_ r1 ∧ Kd.R (Kd.int .i64) 3 w' w.heap.size (fun k_ => some k_ ≠ (v0_ : Value).ownBlock) v1_ r2 ∧ IsS70 w0 w' g s0_0 r3 ∧ Below w0.heap.size w0 w' ∧ KeepBut w w' g none := by
  have HI0 := Aside0.mk hI; have HK := Aside0.mk (KeepBut.refl w g none); have HL := Aside0.mk hB.size; clear hI; have HW0 := Aside0.mk hB.size; have HB := Aside0.mk hB; clear hB; unfold spec_l92Point.f at h; have H := h; clear h; obtain ⟨⟨t416, t419⟩, A2, H⟩ := bnd H
  replace H : ((spec_l6Rd_pick.f k s0_0 t419 4).bind fun bt420 => (if bt420.1 = 0 then (spec_l92Point.j0 k (([1, 1, (-1)] : List Int)) s0_0 bt420.2) else (spec_l92Point.j0 k t416 s0_0 bt420.2))) = some (r1, r2, r3) := H
  obtain ⟨⟨t420, t421⟩, A3, H⟩ := bnd H; replace H : (if t420 = 0 then (spec_l92Point.j0 k (([1, 1, (-1)] : List Int)) s0_0 t421) else (spec_l92Point.j0 k t416 s0_0 t421)) = some (r1, r2, r3) := H; have HC4 := Aside0.mk H; clear H; go_enter Try.func28, Try.ntmps28
  go_upto_if 11 with (first | ((with_reducible refine gate_callee (f := 58) rfl ?_); refine goesK (some 8) Try.func58 #[.pointer (some ⟨g, 0, none⟩), .int .i64 3] ?_; (with_reducible refine (spec_l92Form.calls k g s0_0 s0_1 3 t416 t419 w0 _ ?side1 ?side2 A2.out).mono ?_); (case side1 => repeat (first | (with_reducible first | exact HI0.out | apply IsS70.alloc | apply IsS70.drewN | apply IsS70.drew | apply IsS70.set_1) | exact HI0.out)); (case side2 => repeat (first | (with_reducible first | exact HB.out | apply below_alloc | apply pw_below_drewN | apply below_drew1 | refine below_set ?_ (IsS70.ge HI0.out)) | exact HB.out)); rintro e w5 ⟨v417, rfl, ho0, hi, hb, hk⟩; refine ⟨_, rfl, ?_⟩; have HO418 := Aside0.mk (Kd.R_lower ho0 (keep_size (w := w) (g := g) (row := none) KU)); replace HK := Aside0.mk (KeepBut.trans KU hk (.inl rfl)); replace HB := Aside0.mk (hb); replace HI0 := Aside0.mk (hi); (try clear hb); (try clear hk); (try clear hi); (try clear ho0)) | ((with_reducible refine gate_callee (f := 42) rfl ?_); refine goesK (some 10) Try.func42 #[.pointer (some ⟨g, 0, none⟩), .int .i64 4] ?_; (with_reducible refine (spec_l6Rd_pick.calls k g s0_0 t419 4 t420 t421 w0 _ ?side1 ?side2 A3.out).mono ?_); (case side1 => repeat (first | (with_reducible first | exact HI0.out | apply IsS70.alloc | apply IsS70.drewN | apply IsS70.drew | apply IsS70.set_1) | exact HI0.out)); (case side2 => repeat (first | (with_reducible first | exact HB.out | apply below_alloc | apply pw_below_drewN | apply below_drew1 | refine below_set ?_ (IsS70.ge HI0.out)) | exact HB.out)); rintro e w6 ⟨rfl, hi, hb, hk⟩; refine ⟨_, rfl, ?_⟩; replace HO418 := Aside0.mk (Kd.R_mono (Kd.R_keep (IsS70.apart (show IsS70 w0 _ g s0_0 t419 from by repeat (first | (with_reducible first | exact HI0.out | apply IsS70.alloc | apply IsS70.drewN | apply IsS70.drew | apply IsS70.set_1) | exact HI0.out)) (U HO418.out) (by decide)) hk (fun _ h => h.2)) (fun _ h => h.1)); replace HK := Aside0.mk (KeepBut.trans KU hk (.inl rfl)); replace HB := Aside0.mk (hb); replace HI0 := Aside0.mk (hi); (try clear hb); (try clear hk); (try clear hi)))
  (try simp only [Act.put, List.setIfInBounds_toArray, List.set_cons_zero, List.set_cons_succ])
  go_cut [4] (fun v4 wc => ∃ (kq : Nat) (x4_3 : List Int), Aside0 (spec_l92Point.j0 kq x4_3 s0_0 t421 = some (r1, r2, r3)) ∧ Aside0 (kq ≤ k) ∧ Aside0 (Kd.R (Kd.int .i64) 3 wc w.heap.size (fun _ => True) v4 x4_3) ∧ Aside0 (IsS70 w0 wc g s0_0 t421) ∧ Aside0 (KeepBut w wc g none) ∧ Aside0 (Below w0.heap.size w0 wc))
  case first =>
    have H := HC4.out; clear HC4
    by_cases c7 : t420 = 0
    · rw [if_pos c7] at H
      have c7b0 : (t420 == 0) = true := beq_iff_eq.mpr c7; have c7b1 : (t420 != 0) = false := bne_eq_false_iff_eq.mpr c7; clear c7
      (first | rw [c7b0] | (simp only [i64_w, i32_w]; rw [c7b0]) | skip)
      obtain ⟨y422, hy422⟩ : ∃ y_ : List Int, y_ = (([1, 1, (-1)] : List Int)) := ⟨_, rfl⟩; replace H : (spec_l92Point.j0 k y422 s0_0 t421) = some (r1, r2, r3) := rH hy422 H; have Ny422 := Aside0.mk hy422; clear hy422; have H' := Aside0.mk H; clear H
      go_wp2_with (first | ((with_reducible refine gate_dst (N := 12) rfl ?_); refine Kd.R_lit (Kd.int .i64) _ 3 ?hg (N := 12) ?hd (xs := ([1, 1, (-1)] : List Int)) (inner := [.int .i64 1, .int .i64 1, .int .i64 (-1)]) (ok := fun _ => True) (okp := fun _ => True) ?hr ?hp (fun _ hk => hk) trivial (Below.refl _ _) (Nat.le_refl _) (by simp) ?_; (case hd => rfl); (case hg => rfl); (case hr => first | (go_simp; done) | (go_simp; rfl)); (case hp => exact (Reps.one (show Kd.M (Kd.int .i64) _ _ _ 1 [.int .i64 1] from rfl) (Reps.one (show Kd.M (Kd.int .i64) _ _ _ 1 [.int .i64 1] from rfl) (Reps.one (show Kd.M (Kd.int .i64) _ _ _ (-1) [.int .i64 (-1)] from rfl) (Reps.none _ _))))); intro v423 w8 ho9 hb hg_ hnew_; clear hg_ hnew_; (first | rw [← Ny422.out] at ho9 | (simp only [Int.reduceToNat] at ho9; rw [← Ny422.out] at ho9)); have HO424 := Aside0.mk (Kd.R_lower (Kd.R_new' ho9 (Kd.R_lt (U HO418.out))) (keep_size (w := w) (g := g) (row := none) KU)); replace HO418 := Aside0.mk (Kd.R_elder' (U HO418.out) (Kd.R_base ho9) hb); replace HK := Aside0.mk (KeepBut.trans KU (KeepBut.of_below hb g none) (.inl rfl)); replace HB := Aside0.mk (below_step (by repeat (first | (with_reducible first | exact HB.out | apply below_alloc | apply pw_below_drewN | apply below_drew1 | refine below_set ?_ (IsS70.ge HI0.out)) | exact HB.out)) hb); replace HI0 := Aside0.mk (IsS70.below (by repeat (first | (with_reducible first | exact HI0.out | apply IsS70.alloc | apply IsS70.drewN | apply IsS70.drew | apply IsS70.set_1) | exact HI0.out)) hb); clear hb ho9))
      go_meet
      case rel => exact ⟨_, (y422), H', ⟨oR⟩, ⟨Kd.RM HO424.out (fun _ hk => trivial)⟩, ⟨by repeat (first | (with_reducible first | exact HI0.out | apply IsS70.alloc | apply IsS70.drewN | apply IsS70.drew | apply IsS70.set_1) | exact HI0.out)⟩, ⟨by repeat (first | (with_reducible first | exact HK.out | apply KeepBut.set_ | apply keep_drewN | apply keep_drew | apply keep_alloc) | exact HK.out)⟩, ⟨by repeat (first | (with_reducible first | exact HB.out | apply below_alloc | apply pw_below_drewN | apply below_drew1 | refine below_set ?_ (IsS70.ge HI0.out)) | exact HB.out)⟩⟩
    rw [if_neg c7] at H; have c7b0 : (t420 == 0) = false := beq_eq_false_iff_ne.mpr c7; have c7b1 : (t420 != 0) = true := bne_iff_ne.mpr c7
    (first | rw [c7b0] | (simp only [i64_w, i32_w]; rw [c7b0]) | skip)
    have H' := Aside0.mk H; clear H
    go_wp2
    go_meet
    case rel => exact ⟨_, (t416), H', ⟨oR⟩, ⟨U HO418.out⟩, ⟨by repeat (first | (with_reducible first | exact HI0.out | apply IsS70.alloc | apply IsS70.drewN | apply IsS70.drew | apply IsS70.set_1) | exact HI0.out)⟩, ⟨by repeat (first | (with_reducible first | exact HK.out | apply KeepBut.set_ | apply keep_drewN | apply keep_drew | apply keep_alloc) | exact HK.out)⟩, ⟨by repeat (first | (with_reducible first | exact HB.out | apply below_alloc | apply pw_below_drewN | apply below_drew1 | refine below_set ?_ (IsS70.ge HI0.out)) | exact HB.out)⟩⟩
  case rest =>
    clear HC4; obtain ⟨kq, x4_3, HA, HJ3, HO_4, HI0, HK, HB⟩ := hcut; cases kq with
    | zero => exact absurd HA.out (by simp [spec_l92Point.j0])
    | succ kj3 =>
      have H := HA.out; clear HA; simp only [spec_l92Point.j0] at H; obtain ⟨⟨t425, t426⟩, A10, H⟩ := bnd H
      replace H : (if t426 = true then ((spec_l6Rd_pick.f kj3 s0_0 t421 16).bind fun bt429 => (if bt429.1 > 0 then (some (x4_3, t425, bt429.2)) else ((spec_l91Vector.f kj3 s0_0 bt429.2 x4_3 3).bind fun bt431 => (some (x4_3, bt431.1, bt431.2))))) else ((spec_l91Vector.f kj3 s0_0 t421 x4_3 3).bind fun bt435 => (some (x4_3, bt435.1, bt435.2)))) = some (r1, r2, r3) := H
      by_cases c11 : t426 = true
      · subst c11
        replace H := ifT H; obtain ⟨⟨t429, t430⟩, A12, H⟩ := bnd H; replace H : (if t429 > 0 then (some (x4_3, t425, t430)) else ((spec_l91Vector.f kj3 s0_0 t430 x4_3 3).bind fun bt431 => (some (x4_3, bt431.1, bt431.2)))) = some (r1, r2, r3) := H
        by_cases c13 : t429 > 0
        · rw [if_pos c13] at H
          have c13b0 : decide (0 < t429) = true := decide_eq_true c13; clear c13; simp only [Option.some.injEq, Prod.mk.injEq] at H; obtain ⟨rfl, rfl, rfl⟩ := H; obtain ⟨Ao14, co14, eo14⟩ := Kd.R_slice HO_4.out; subst eo14
          go_wp2_with (first | ((with_reducible refine gate_callee (f := 59) rfl ?_); refine goesK (some 15) Try.func59 #[.slice Ao14 x4_3.length co14] ?_; (with_reducible refine (spec_ZeroFind.calls kj3 _ _ x4_3 t425 true _ ?side1 ?side2 A10.out).mono ?_); (case side1 => exact U ((Kd.R_reads' HO_4.out).2.2)); (case side2 => exact (Kd.R_reads' HO_4.out).2.1); rintro e w15 ⟨v427, rfl, ho0, hb⟩; refine ⟨_, rfl, ?_⟩; have HO428 := Aside0.mk (Kd.R_lower (Kd.R_new' ho0 (Kd.R_lt (U HO_4.out))) (keep_size (w := w) (g := g) (row := none) KU)); replace HO_4 := Aside0.mk (Kd.R_elder' (U HO_4.out) (Kd.R_base ho0) hb); replace HK := Aside0.mk (KeepBut.trans KU (KeepBut.of_below hb g none) (.inl rfl)); replace HB := Aside0.mk (below_step (by repeat (first | (with_reducible first | exact HB.out | apply below_alloc | apply pw_below_drewN | apply below_drew1 | refine below_set ?_ (IsS70.ge HI0.out)) | exact HB.out)) hb); replace HI0 := Aside0.mk (IsS70.below (by repeat (first | (with_reducible first | exact HI0.out | apply IsS70.alloc | apply IsS70.drewN | apply IsS70.drew | apply IsS70.set_1) | exact HI0.out)) hb); (try clear hb); (try clear ho0)) | (go_at_call 42; (with_reducible refine (spec_l6Rd_pick.calls kj3 g s0_0 t421 16 t429 t430 w0 _ ?side1 ?side2 A12.out).mono ?_); (case side1 => repeat (first | (with_reducible first | exact HI0.out | apply IsS70.alloc | apply IsS70.drewN | apply IsS70.drew | apply IsS70.set_1) | exact HI0.out)); (case side2 => repeat (first | (with_reducible first | exact HB.out | apply below_alloc | apply pw_below_drewN | apply below_drew1 | refine below_set ?_ (IsS70.ge HI0.out)) | exact HB.out)); rintro e w16 ⟨rfl, hi, hb, hk⟩; replace HO_4 := Aside0.mk (Kd.R_mono (Kd.R_keep (IsS70.apart (show IsS70 w0 _ g s0_0 t421 from by repeat (first | (with_reducible first | exact HI0.out | apply IsS70.alloc | apply IsS70.drewN | apply IsS70.drew | apply IsS70.set_1) | exact HI0.out)) (U HO_4.out) (by decide)) hk (fun _ h => h.2)) (fun _ h => h.1)); replace HO428 := Aside0.mk (Kd.R_mono (Kd.R_keep (IsS70.apart (show IsS70 w0 _ g s0_0 t421 from by repeat (first | (with_reducible first | exact HI0.out | apply IsS70.alloc | apply IsS70.drewN | apply IsS70.drew | apply IsS70.set_1) | exact HI0.out)) (U HO428.out) (by decide)) hk (fun _ h => h.2)) (fun _ h => h.1)); replace HK := Aside0.mk (KeepBut.trans KU hk (.inl rfl)); replace HB := Aside0.mk (hb); replace HI0 := Aside0.mk (hi); (try clear hb); (try clear hk); (try clear hi)))
          go_ret2
          exact ⟨_, _, by first | rfl | (simp [errW_none, errW_some] <;> rfl) | (simp [*, errW_none, errW_some] <;> rfl), Kd.RM HO_4.out (fun _ hk => hk.2), Kd.RM HO428.out (fun _ hk => hk.2), by repeat (first | (with_reducible first | exact HI0.out | apply IsS70.alloc | apply IsS70.drewN | apply IsS70.drew | apply IsS70.set_1) | exact HI0.out), by repeat (first | (with_reducible first | exact HB.out | apply below_alloc | apply pw_below_drewN | apply below_drew1 | refine below_set ?_ (IsS70.ge HI0.out)) | exact HB.out), by repeat (first | (with_reducible first | exact HK.out | apply KeepBut.set_ | apply keep_drewN | apply keep_drew | apply keep_alloc) | exact HK.out)⟩
        rw [if_neg c13] at H; have c13b0 : decide (0 < t429) = false := decide_eq_false c13; clear c13; obtain ⟨⟨t431, t434⟩, A17, H⟩ := bnd H; replace H : (some (x4_3, t431, t434)) = some (r1, r2, r3) := H; simp only [Option.some.injEq, Prod.mk.injEq] at H; obtain ⟨rfl, rfl, rfl⟩ := H; obtain ⟨Ao18, co18, eo18⟩ := Kd.R_slice HO_4.out; subst eo18
        go_wp2_with (first | ((with_reducible refine gate_callee (f := 59) rfl ?_); refine goesK (some 15) Try.func59 #[.slice Ao18 x4_3.length co18] ?_; (with_reducible refine (spec_ZeroFind.calls kj3 _ _ x4_3 t425 true _ ?side1 ?side2 A10.out).mono ?_); (case side1 => exact U ((Kd.R_reads' HO_4.out).2.2)); (case side2 => exact (Kd.R_reads' HO_4.out).2.1); rintro e w19 ⟨v427, rfl, ho0, hb⟩; refine ⟨_, rfl, ?_⟩; have HO428 := Aside0.mk (Kd.R_lower (Kd.R_new' ho0 (Kd.R_lt (U HO_4.out))) (keep_size (w := w) (g := g) (row := none) KU)); replace HO_4 := Aside0.mk (Kd.R_elder' (U HO_4.out) (Kd.R_base ho0) hb); replace HK := Aside0.mk (KeepBut.trans KU (KeepBut.of_below hb g none) (.inl rfl)); replace HB := Aside0.mk (below_step (by repeat (first | (with_reducible first | exact HB.out | apply below_alloc | apply pw_below_drewN | apply below_drew1 | refine below_set ?_ (IsS70.ge HI0.out)) | exact HB.out)) hb); replace HI0 := Aside0.mk (IsS70.below (by repeat (first | (with_reducible first | exact HI0.out | apply IsS70.alloc | apply IsS70.drewN | apply IsS70.drew | apply IsS70.set_1) | exact HI0.out)) hb); (try clear hb); (try clear ho0)) | (go_at_call 42; (with_reducible refine (spec_l6Rd_pick.calls kj3 g s0_0 t421 16 t429 t430 w0 _ ?side1 ?side2 A12.out).mono ?_); (case side1 => repeat (first | (with_reducible first | exact HI0.out | apply IsS70.alloc | apply IsS70.drewN | apply IsS70.drew | apply IsS70.set_1) | exact HI0.out)); (case side2 => repeat (first | (with_reducible first | exact HB.out | apply below_alloc | apply pw_below_drewN | apply below_drew1 | refine below_set ?_ (IsS70.ge HI0.out)) | exact HB.out)); rintro e w20 ⟨rfl, hi, hb, hk⟩; replace HO_4 := Aside0.mk (Kd.R_mono (Kd.R_keep (IsS70.apart (show IsS70 w0 _ g s0_0 t421 from by repeat (first | (with_reducible first | exact HI0.out | apply IsS70.alloc | apply IsS70.drewN | apply IsS70.drew | apply IsS70.set_1) | exact HI0.out)) (U HO_4.out) (by decide)) hk (fun _ h => h.2)) (fun _ h => h.1)); replace HO428 := Aside0.mk (Kd.R_mono (Kd.R_keep (IsS70.apart (show IsS70 w0 _ g s0_0 t421 from by repeat (first | (with_reducible first | exact HI0.out | apply IsS70.alloc | apply IsS70.drewN | apply IsS70.drew | apply IsS70.set_1) | exact HI0.out)) (U HO428.out) (by decide)) hk (fun _ h => h.2)) (fun _ h => h.1)); replace HK := Aside0.mk (KeepBut.trans KU hk (.inl rfl)); replace HB := Aside0.mk (hb); replace HI0 := Aside0.mk (hi); (try clear hb); (try clear hk); (try clear hi)) | ((with_reducible refine gate_callee (f := 41) rfl ?_); refine goesK (some 29) Try.func41 #[.pointer (some ⟨g, 0, none⟩), .slice Ao18 x4_3.length co18, .int .i64 3] ?_; (with_reducible refine (spec_l91Vector.calls kj3 g s0_0 t430 _ _ x4_3 3 t431 t434 w0 _ ?side1 ?side2 ?side3 ?side4 ?side5 A17.out).mono ?_); (case side1 => repeat (first | (with_reducible first | exact HI0.out | apply IsS70.alloc | apply IsS70.drewN | apply IsS70.drew | apply IsS70.set_1) | exact HI0.out)); (case side2 => repeat (first | (with_reducible first | exact HB.out | apply below_alloc | apply pw_below_drewN | apply below_drew1 | refine below_set ?_ (IsS70.ge HI0.out)) | exact HB.out)); (case side3 => exact U ((Kd.R_reads' HO_4.out).2.2)); (case side4 => exact (Kd.R_reads' HO_4.out).2.1); (case side5 => exact far_slice (IsS70.own_ne HI0.out HO_4.out (by decide))); rintro e w21 ⟨v432, rfl, ho0, hi, hb, hk⟩; refine ⟨_, rfl, ?_⟩; have HO433 := Aside0.mk (Kd.R_lower (Kd.R_new' (Kd.R_new' ho0 (Kd.R_lt (U HO_4.out))) (Kd.R_lt (U HO428.out))) (keep_size (w := w) (g := g) (row := none) KU)); replace HO_4 := Aside0.mk (Kd.R_mono (Kd.R_told (Kd.R_oldK (IsS70.apart (show IsS70 w0 _ g s0_0 t430 from by repeat (first | (with_reducible first | exact HI0.out | apply IsS70.alloc | apply IsS70.drewN | apply IsS70.drew | apply IsS70.set_1) | exact HI0.out)) (U HO_4.out) (by decide)) hk) (Kd.R_base ho0)) (fun _ h_ => h_.1)); replace HO428 := Aside0.mk (Kd.R_mono (Kd.R_told (Kd.R_oldK (IsS70.apart (show IsS70 w0 _ g s0_0 t430 from by repeat (first | (with_reducible first | exact HI0.out | apply IsS70.alloc | apply IsS70.drewN | apply IsS70.drew | apply IsS70.set_1) | exact HI0.out)) (U HO428.out) (by decide)) hk) (Kd.R_base ho0)) (fun _ h_ => h_.1)); replace HK := Aside0.mk (KeepBut.trans KU hk (.inl rfl)); replace HB := Aside0.mk (hb); replace HI0 := Aside0.mk (hi); (try clear hb); (try clear hk); (try clear hi); (try clear ho0)))
        go_ret2
        exact ⟨_, _, by first | rfl | (simp [errW_none, errW_some] <;> rfl) | (simp [*, errW_none, errW_some] <;> rfl), Kd.RM HO_4.out (fun _ hk => hk.2), Kd.RM HO433.out (fun _ hk => hk.1.2), by repeat (first | (with_reducible first | exact HI0.out | apply IsS70.alloc | apply IsS70.drewN | apply IsS70.drew | apply IsS70.set_1) | exact HI0.out), by repeat (first | (with_reducible first | exact HB.out | apply below_alloc | apply pw_below_drewN | apply below_drew1 | refine below_set ?_ (IsS70.ge HI0.out)) | exact HB.out), by repeat (first | (with_reducible first | exact HK.out | apply KeepBut.set_ | apply keep_drewN | apply keep_drew | apply keep_alloc) | exact HK.out)⟩
      replace c11 := Bool.eq_false_iff.mpr c11; subst c11; replace H := ifF H; obtain ⟨⟨t435, t438⟩, A22, H⟩ := bnd H; replace H : (some (x4_3, t435, t438)) = some (r1, r2, r3) := H; simp only [Option.some.injEq, Prod.mk.injEq] at H; obtain ⟨rfl, rfl, rfl⟩ := H; obtain ⟨Ao23, co23, eo23⟩ := Kd.R_slice HO_4.out; subst eo23
      go_wp2_with (first | ((with_reducible refine gate_callee (f := 59) rfl ?_); refine goesK (some 15) Try.func59 #[.slice Ao23 x4_3.length co23] ?_; (with_reducible refine (spec_ZeroFind.calls kj3 _ _ x4_3 t425 false _ ?side1 ?side2 A10.out).mono ?_); (case side1 => exact U ((Kd.R_reads' HO_4.out).2.2)); (case side2 => exact (Kd.R_reads' HO_4.out).2.1); rintro e w24 ⟨v427, rfl, ho0, hb⟩; refine ⟨_, rfl, ?_⟩; have HO428 := Aside0.mk (Kd.R_lower (Kd.R_new' ho0 (Kd.R_lt (U HO_4.out))) (keep_size (w := w) (g := g) (row := none) KU)); replace HO_4 := Aside0.mk (Kd.R_elder' (U HO_4.out) (Kd.R_base ho0) hb); replace HK := Aside0.mk (KeepBut.trans KU (KeepBut.of_below hb g none) (.inl rfl)); replace HB := Aside0.mk (below_step (by repeat (first | (with_reducible first | exact HB.out | apply below_alloc | apply pw_below_drewN | apply below_drew1 | refine below_set ?_ (IsS70.ge HI0.out)) | exact HB.out)) hb); replace HI0 := Aside0.mk (IsS70.below (by repeat (first | (with_reducible first | exact HI0.out | apply IsS70.alloc | apply IsS70.drewN | apply IsS70.drew | apply IsS70.set_1) | exact HI0.out)) hb); (try clear hb); (try clear ho0)) | ((with_reducible refine gate_callee (f := 41) rfl ?_); refine goesK (some 29) Try.func41 #[.pointer (some ⟨g, 0, none⟩), .slice Ao23 x4_3.length co23, .int .i64 3] ?_; (with_reducible refine (spec_l91Vector.calls kj3 g s0_0 t421 _ _ x4_3 3 t435 t438 w0 _ ?side1 ?side2 ?side3 ?side4 ?side5 A22.out).mono ?_); (case side1 => repeat (first | (with_reducible first | exact HI0.out | apply IsS70.alloc | apply IsS70.drewN | apply IsS70.drew | apply IsS70.set_1) | exact HI0.out)); (case side2 => repeat (first | (with_reducible first | exact HB.out | apply below_alloc | apply pw_below_drewN | apply below_drew1 | refine below_set ?_ (IsS70.ge HI0.out)) | exact HB.out)); (case side3 => exact U ((Kd.R_reads' HO_4.out).2.2)); (case side4 => exact (Kd.R_reads' HO_4.out).2.1); (case side5 => exact far_slice (IsS70.own_ne HI0.out HO_4.out (by decide))); rintro e w25 ⟨v436, rfl, ho0, hi, hb, hk⟩; refine ⟨_, rfl, ?_⟩; have HO437 := Aside0.mk (Kd.R_lower (Kd.R_new' (Kd.R_new' ho0 (Kd.R_lt (U HO_4.out))) (Kd.R_lt (U HO428.out))) (keep_size (w := w) (g := g) (row := none) KU)); replace HO_4 := Aside0.mk (Kd.R_mono (Kd.R_told (Kd.R_oldK (IsS70.apart (show IsS70 w0 _ g s0_0 t421 from by repeat (first | (with_reducible first | exact HI0.out | apply IsS70.alloc | apply IsS70.drewN | apply IsS70.drew | apply IsS70.set_1) | exact HI0.out)) (U HO_4.out) (by decide)) hk) (Kd.R_base ho0)) (fun _ h_ => h_.1)); replace HO428 := Aside0.mk (Kd.R_mono (Kd.R_told (Kd.R_oldK (IsS70.apart (show IsS70 w0 _ g s0_0 t421 from by repeat (first | (with_reducible first | exact HI0.out | apply IsS70.alloc | apply IsS70.drewN | apply IsS70.drew | apply IsS70.set_1) | exact HI0.out)) (U HO428.out) (by decide)) hk) (Kd.R_base ho0)) (fun _ h_ => h_.1)); replace HK := Aside0.mk (KeepBut.trans KU hk (.inl rfl)); replace HB := Aside0.mk (hb); replace HI0 := Aside0.mk (hi); (try clear hb); (try clear hk); (try clear hi); (try clear ho0)))
      go_ret2
      exact ⟨_, _, by first | rfl | (simp [errW_none, errW_some] <;> rfl) | (simp [*, errW_none, errW_some] <;> rfl), Kd.RM HO_4.out (fun _ hk => hk.2), Kd.RM HO437.out (fun _ hk => hk.1.2), by repeat (first | (with_reducible first | exact HI0.out | apply IsS70.alloc | apply IsS70.drewN | apply IsS70.drew | apply IsS70.set_1) | exact HI0.out), by repeat (first | (with_reducible first | exact HB.out | apply below_alloc | apply pw_below_drewN | apply below_drew1 | refine below_set ?_ (IsS70.ge HI0.out)) | exact HB.out), by repeat (first | (with_reducible first | exact HK.out | apply KeepBut.set_ | apply keep_drewN | apply keep_drew | apply keep_alloc) | exact HK.out)⟩

/-! ### spec_l6Open: function 29 -/
def spec_l6Open.f (l0 : List Int) : Option (List Int × Int) := if (l0.length : Int) > 2000 then (if 2000 ≤ (l0.length : Int) then (some (l0.take 2000, 0)) else (none)) else (some (l0, 0))
set_option maxHeartbeats 8000000 in
set_option maxRecDepth 100000 in
theorem spec_l6Open.calls (A0 : Option Addr) (c0 : Nat) (l0 : List Int) (r1 : List Int) (r2 : Int) (w0 w : World) (hB : Below w0.heap.size w0 w) (hr0 : Kd.C (Kd.int .u8) w0 A0 l0.length l0) (hc0 : l0.length ≤ c0) (h : spec_l6Open.f l0 = some (r1, r2)) :
    Calls Try.prog 29 #[.slice A0 l0.length c0] w fun e w' => ∃ g_ : Nat, e = .returned (.pointer (some ⟨g_, 0, none⟩)) ∧ IsS70 w0 w' g_ r1 r2 ∧ Below w0.heap.size w0 w' ∧ Below w.heap.size w w' := by
  have hu70 := Try.underlying70; have HR0 := Aside0.mk hr0; have HC0 := Aside0.mk hc0; clear hr0 hc0; have HBW := Aside0.mk (Below.refl w.heap.size w); have HW0 := Aside0.mk hB.size; have HB := Aside0.mk hB; clear hB; unfold spec_l6Open.f at h; have H := h; clear h
  by_cases c2 : (l0.length : Int) > 2000
  · rw [if_pos c2] at H
    have c2b0 : decide (2000 < (l0.length : Int)) = true := decide_eq_true c2; have c2b1 : decide (2000 < l0.length) = true := decide_eq_true (by omega); clear c2; obtain ⟨c3, H⟩ := ifN H; have c3b0 := eq_true c3; have c3b1 : decide (2000 ≤ (l0.length : Int)) = true := decide_eq_true c3; clear c3; simp only [Option.some.injEq, Prod.mk.injEq] at H; obtain ⟨rfl, rfl⟩ := H; obtain ⟨i04, hi04, _, hsz4, _⟩ := info_parts info5; obtain ⟨hcut4, hA4, hC4⟩ := print_take_of (P := Try.prog) (Value.int .u8) 0 22 5 .i64 Try.underlying22 hi04 hsz4 A0 c0 l0 2000 (by omega) (oD) HC0.out; have HR439 := Aside0.mk (Kd.C_of_reads (h1 := fun _ => rfl) (hA4 _ (Kd.reads_of_C HR0.out))); have HC439 := Aside0.mk hC4; clear hA4 hC4 hi04 hsz4; go_enter Try.func29, Try.ntmps29
    go_wp2_with (first | ((with_reducible refine gate_dst (N := 10) rfl ?_); refine boxE (N := 10) (cs := #[.slice A0 (l0.take 2000).length c0, .int .i64 0]) (t := 70) ?_; intro gb440 hg w5 hbox hb; replace HB := BS hb; have BK440 := Aside0.mk (hbox); have GW440 := Aside0.mk ((by rw [hg]; exact (below_size (by repeat (first | (with_reducible first | exact HBW.out | apply below_alloc | apply pw_below_drewN | apply below_drew1) | exact HBW.out))) : w.heap.size ≤ gb440)); have GE440 := Aside0.mk ((Nat.le_trans HW0.out (by rw [hg]; exact (below_size (by repeat (first | (with_reducible first | exact HBW.out | apply below_alloc | apply pw_below_drewN | apply below_drew1) | exact HBW.out))) : w.heap.size ≤ gb440) : w0.heap.size ≤ gb440)); replace HBW := Aside0.mk (below_step HBW.out hb); clear hb hbox hg))
    go_ret
    exact ⟨_, rfl, (show IsS70 w0 _ gb440 (l0.take 2000) 0 from ⟨_, _, U BK440.out, GE440.out, HR439.out⟩), BU, by repeat (first | (with_reducible first | exact HBW.out | apply below_alloc | apply pw_below_drewN | apply below_drew1 | refine below_set ?_ GW440.out) | exact HBW.out)⟩
  rw [if_neg c2] at H; have c2b0 : decide (2000 < (l0.length : Int)) = false := decide_eq_false c2; have c2b1 : decide (2000 < l0.length) = false := decide_eq_false (by omega); clear c2; simp only [Option.some.injEq, Prod.mk.injEq] at H; obtain ⟨rfl, rfl⟩ := H; go_enter Try.func29, Try.ntmps29
  go_wp2_with (first | ((with_reducible refine gate_dst (N := 10) rfl ?_); refine boxE (N := 10) (cs := #[.slice A0 l0.length c0, .int .i64 0]) (t := 70) ?_; intro gb441 hg w6 hbox hb; replace HB := BS hb; have BK441 := Aside0.mk (hbox); have GW441 := Aside0.mk ((by rw [hg]; exact (below_size (by repeat (first | (with_reducible first | exact HBW.out | apply below_alloc | apply pw_below_drewN | apply below_drew1) | exact HBW.out))) : w.heap.size ≤ gb441)); have GE441 := Aside0.mk ((Nat.le_trans HW0.out (by rw [hg]; exact (below_size (by repeat (first | (with_reducible first | exact HBW.out | apply below_alloc | apply pw_below_drewN | apply below_drew1) | exact HBW.out))) : w.heap.size ≤ gb441) : w0.heap.size ≤ gb441)); replace HBW := Aside0.mk (below_step HBW.out hb); clear hb hbox hg))
  go_ret
  exact ⟨_, rfl, (show IsS70 w0 _ gb441 l0 0 from ⟨_, _, U BK441.out, GE441.out, HR0.out⟩), BU, by repeat (first | (with_reducible first | exact HBW.out | apply below_alloc | apply pw_below_drewN | apply below_drew1 | refine below_set ?_ GW441.out) | exact HBW.out)⟩

/-! ### spec_DrawConicMany: function 25 -/
def spec_DrawConicMany.f (k : Nat) (l0 : List Int) : Option (List Int × List Int × Int) := (spec_l6Open.f l0).bind fun bt442 => ((spec_l92Point.f k bt442.1 bt442.2).bind fun bt445 => ((spec_l6Rd_pick.f k bt442.1 bt445.2.2 3).bind fun bt452 => ((spec_l6Rd_pick.f k bt442.1 bt452.2 20).bind fun bt454 => ((spec_l6Rd_pick.f k bt442.1 bt454.2 20).bind fun bt456 => (some (bt445.1, bt445.2.1, wrap64 ((wrap64 ((wrap64 (1 + bt452.1)) - (wrap64 ((wrap64 (Int.tdiv bt454.1 19)) * 3)))) + (wrap64 ((wrap64 (Int.tdiv bt456.1 19)) * 5)))))))))
theorem spec_DrawConicMany.mono : ∀ a0 k, LeO (spec_DrawConicMany.f k a0) (spec_DrawConicMany.f (k + 1) a0) := by
  intro a0 k
  unfold spec_DrawConicMany.f
  repeat' first
      | (with_reducible exact spec_l6Rd_pick.mono _ _ _ _)
      | (with_reducible exact spec_l92Point.mono _ _ _)
      | (with_reducible exact LeO.refl _)
      | (with_reducible exact LeO.none _)
      | (with_reducible refine LeO.ite ?_ ?_)
      | (with_reducible refine LeO.bind ?_ (fun _ => ?_))
      | exact spec_l6Rd_pick.mono _ _ _ _
      | exact spec_l92Point.mono _ _ _
      | exact LeO.none _
      | refine LeO.ite ?_ ?_
      | refine LeO.bind ?_ (fun _ => ?_)
set_option maxHeartbeats 8000000 in
set_option maxRecDepth 100000 in
theorem spec_DrawConicMany.calls (k : Nat) (A0 : Option Addr) (c0 : Nat) (l0 : List Int) (r1 : List Int) (r2 : List Int) (r3 : Int) (w : World) (hr0 : Kd.C (Kd.int .u8) w A0 l0.length l0) (hc0 : l0.length ≤ c0) (h : spec_DrawConicMany.f k l0 = some (r1, r2, r3)) :
    Calls Try.prog 25 #[.slice A0 l0.length c0] w fun e w' => ∃ v0_ v1_ : Value, e = .returned (.tuple #[v0_, v1_, .int .i64 r3]) ∧ Kd.R (Kd.int .i64) 3 w' w.heap.size (fun k_ => some k_ ≠ (v1_ : Value).ownBlock) v0_ r1 ∧ Kd.R (Kd.int .i64) 3 w' w.heap.size (fun k_ => some k_ ≠ (v0_ : Value).ownBlock) v1_ r2 ∧ Below w.heap.size w w' := by
  have HR0 := Aside0.mk hr0; have HC0 := Aside0.mk hc0; clear hr0 hc0; have HB := Aside0.mk (Below.refl w.heap.size w); unfold spec_DrawConicMany.f at h; have H := h; clear h; obtain ⟨⟨t442, t443⟩, A2, H⟩ := bnd H
  replace H : ((spec_l92Point.f k t442 t443).bind fun bt445 => ((spec_l6Rd_pick.f k t442 bt445.2.2 3).bind fun bt452 => ((spec_l6Rd_pick.f k t442 bt452.2 20).bind fun bt454 => ((spec_l6Rd_pick.f k t442 bt454.2 20).bind fun bt456 => (some (bt445.1, bt445.2.1, wrap64 ((wrap64 ((wrap64 (1 + bt452.1)) - (wrap64 ((wrap64 (Int.tdiv bt454.1 19)) * 3)))) + (wrap64 ((wrap64 (Int.tdiv bt456.1 19)) * 5))))))))) = some (r1, r2, r3) := H
  obtain ⟨⟨t445, t448, t451⟩, A3, H⟩ := bnd H
  replace H : ((spec_l6Rd_pick.f k t442 t451 3).bind fun bt452 => ((spec_l6Rd_pick.f k t442 bt452.2 20).bind fun bt454 => ((spec_l6Rd_pick.f k t442 bt454.2 20).bind fun bt456 => (some (t445, t448, wrap64 ((wrap64 ((wrap64 (1 + bt452.1)) - (wrap64 ((wrap64 (Int.tdiv bt454.1 19)) * 3)))) + (wrap64 ((wrap64 (Int.tdiv bt456.1 19)) * 5)))))))) = some (r1, r2, r3) := H
  obtain ⟨⟨t452, t453⟩, A4, H⟩ := bnd H
  replace H : ((spec_l6Rd_pick.f k t442 t453 20).bind fun bt454 => ((spec_l6Rd_pick.f k t442 bt454.2 20).bind fun bt456 => (some (t445, t448, wrap64 ((wrap64 ((wrap64 (1 + t452)) - (wrap64 ((wrap64 (Int.tdiv bt454.1 19)) * 3)))) + (wrap64 ((wrap64 (Int.tdiv bt456.1 19)) * 5))))))) = some (r1, r2, r3) := H
  obtain ⟨⟨t454, t455⟩, A5, H⟩ := bnd H
  replace H : ((spec_l6Rd_pick.f k t442 t455 20).bind fun bt456 => (some (t445, t448, wrap64 ((wrap64 ((wrap64 (1 + t452)) - (wrap64 ((wrap64 (Int.tdiv t454 19)) * 3)))) + (wrap64 ((wrap64 (Int.tdiv bt456.1 19)) * 5)))))) = some (r1, r2, r3) := H
  obtain ⟨⟨t456, t457⟩, A6, H⟩ := bnd H; replace H : (some (t445, t448, wrap64 ((wrap64 ((wrap64 (1 + t452)) - (wrap64 ((wrap64 (Int.tdiv t454 19)) * 3)))) + (wrap64 ((wrap64 (Int.tdiv t456 19)) * 5))))) = some (r1, r2, r3) := H; simp only [Option.some.injEq, Prod.mk.injEq] at H; obtain ⟨rfl, rfl, rfl⟩ := H; go_enter Try.func25, Try.ntmps25
  go_wp2_with (first | ((with_reducible refine gate_callee (f := 29) rfl ?_); refine goesK (some 9) Try.func29 #[.slice A0 l0.length c0] ?_; (with_reducible refine (spec_l6Open.calls _ _ l0 t442 t443 w _ ?side1 ?side2 ?side3 A2.out).mono ?_); (case side1 => repeat (first | (with_reducible first | exact HB.out | apply below_alloc | apply pw_below_drewN | apply below_drew1) | exact HB.out | exact Below.refl _ _)); (case side2 => exact HR0.out); (case side3 => exact HC0.out); rintro e w7 ⟨g444, rfl, hi, hb, hb2⟩; refine ⟨_, rfl, ?_⟩; replace HB := Aside0.mk (hb); have HI444 := Aside0.mk (hi); (try clear hb); (try clear hb2); (try clear hi)) | ((with_reducible refine gate_callee (f := 28) rfl ?_); refine goesK (some 12) Try.func28 #[.pointer (some ⟨g444, 0, none⟩)] ?_; (with_reducible refine (spec_l92Point.calls k g444 t442 t443 t445 t448 t451 w _ ?side1 ?side2 A3.out).mono ?_); (case side1 => repeat (first | (with_reducible first | exact HI444.out | apply IsS70.alloc | apply IsS70.drewN | apply IsS70.drew | apply IsS70.set_1) | exact HI444.out)); (case side2 => repeat (first | (with_reducible first | exact HB.out | apply below_alloc | apply pw_below_drewN | apply below_drew1 | refine below_set ?_ (IsS70.ge HI444.out)) | exact HB.out)); rintro e w8 ⟨v446, v449, rfl, ho0, ho1, hi, hb, hk⟩; refine ⟨_, rfl, ?_⟩; have HO447 := Aside0.mk (Kd.R_lower ho0 (below_size (by repeat (first | (with_reducible first | exact HB.out | apply below_alloc | apply pw_below_drewN | apply below_drew1 | refine below_set ?_ (IsS70.ge HI444.out)) | exact HB.out)))); have HO450 := Aside0.mk (Kd.R_lower ho1 (below_size (by repeat (first | (with_reducible first | exact HB.out | apply below_alloc | apply pw_below_drewN | apply below_drew1 | refine below_set ?_ (IsS70.ge HI444.out)) | exact HB.out)))); replace HB := Aside0.mk (hb); replace HI444 := Aside0.mk (hi); (try clear hb); (try clear hk); (try clear hi); (try clear ho0); (try clear ho1)) | ((with_reducible refine gate_callee (f := 42) rfl ?_); refine goesK (some 18) Try.func42 #[.pointer (some ⟨g444, 0, none⟩), .int .i64 3] ?_; (with_reducible refine (spec_l6Rd_pick.calls k g444 t442 t451 3 t452 t453 w _ ?side1 ?side2 A4.out).mono ?_); (case side1 => repeat (first | (with_reducible first | exact HI444.out | apply IsS70.alloc | apply IsS70.drewN | apply IsS70.drew | apply IsS70.set_1) | exact HI444.out)); (case side2 => repeat (first | (with_reducible first | exact HB.out | apply below_alloc | apply pw_below_drewN | apply below_drew1 | refine below_set ?_ (IsS70.ge HI444.out)) | exact HB.out)); rintro e w9 ⟨rfl, hi, hb, hk⟩; refine ⟨_, rfl, ?_⟩; replace HO447 := Aside0.mk (Kd.R_mono (Kd.R_keep (IsS70.apart (show IsS70 w _ g444 t442 t451 from by repeat (first | (with_reducible first | exact HI444.out | apply IsS70.alloc | apply IsS70.drewN | apply IsS70.drew | apply IsS70.set_1) | exact HI444.out)) (U HO447.out) (by decide)) hk (fun _ h => h.2)) (fun _ h => h.1)); replace HO450 := Aside0.mk (Kd.R_mono (Kd.R_keep (IsS70.apart (show IsS70 w _ g444 t442 t451 from by repeat (first | (with_reducible first | exact HI444.out | apply IsS70.alloc | apply IsS70.drewN | apply IsS70.drew | apply IsS70.set_1) | exact HI444.out)) (U HO450.out) (by decide)) hk (fun _ h => h.2)) (fun _ h => h.1)); replace HB := Aside0.mk (hb); replace HI444 := Aside0.mk (hi); (try clear hb); (try clear hk); (try clear hi)) | ((with_reducible refine gate_callee (f := 42) rfl ?_); refine goesK (some 21) Try.func42 #[.pointer (some ⟨g444, 0, none⟩), .int .i64 20] ?_; (with_reducible refine (spec_l6Rd_pick.calls k g444 t442 t453 20 t454 t455 w _ ?side1 ?side2 A5.out).mono ?_); (case side1 => repeat (first | (with_reducible first | exact HI444.out | apply IsS70.alloc | apply IsS70.drewN | apply IsS70.drew | apply IsS70.set_1) | exact HI444.out)); (case side2 => repeat (first | (with_reducible first | exact HB.out | apply below_alloc | apply pw_below_drewN | apply below_drew1 | refine below_set ?_ (IsS70.ge HI444.out)) | exact HB.out)); rintro e w10 ⟨rfl, hi, hb, hk⟩; refine ⟨_, rfl, ?_⟩; replace HO447 := Aside0.mk (Kd.R_mono (Kd.R_keep (IsS70.apart (show IsS70 w _ g444 t442 t453 from by repeat (first | (with_reducible first | exact HI444.out | apply IsS70.alloc | apply IsS70.drewN | apply IsS70.drew | apply IsS70.set_1) | exact HI444.out)) (U HO447.out) (by decide)) hk (fun _ h => h.2)) (fun _ h => h.1)); replace HO450 := Aside0.mk (Kd.R_mono (Kd.R_keep (IsS70.apart (show IsS70 w _ g444 t442 t453 from by repeat (first | (with_reducible first | exact HI444.out | apply IsS70.alloc | apply IsS70.drewN | apply IsS70.drew | apply IsS70.set_1) | exact HI444.out)) (U HO450.out) (by decide)) hk (fun _ h => h.2)) (fun _ h => h.1)); replace HB := Aside0.mk (hb); replace HI444 := Aside0.mk (hi); (try clear hb); (try clear hk); (try clear hi)) | ((with_reducible refine gate_callee (f := 42) rfl ?_); refine goesK (some 26) Try.func42 #[.pointer (some ⟨g444, 0, none⟩), .int .i64 20] ?_; (with_reducible refine (spec_l6Rd_pick.calls k g444 t442 t455 20 t456 t457 w _ ?side1 ?side2 A6.out).mono ?_); (case side1 => repeat (first | (with_reducible first | exact HI444.out | apply IsS70.alloc | apply IsS70.drewN | apply IsS70.drew | apply IsS70.set_1) | exact HI444.out)); (case side2 => repeat (first | (with_reducible first | exact HB.out | apply below_alloc | apply pw_below_drewN | apply below_drew1 | refine below_set ?_ (IsS70.ge HI444.out)) | exact HB.out)); rintro e w11 ⟨rfl, hi, hb, hk⟩; refine ⟨_, rfl, ?_⟩; replace HO447 := Aside0.mk (Kd.R_mono (Kd.R_keep (IsS70.apart (show IsS70 w _ g444 t442 t455 from by repeat (first | (with_reducible first | exact HI444.out | apply IsS70.alloc | apply IsS70.drewN | apply IsS70.drew | apply IsS70.set_1) | exact HI444.out)) (U HO447.out) (by decide)) hk (fun _ h => h.2)) (fun _ h => h.1)); replace HO450 := Aside0.mk (Kd.R_mono (Kd.R_keep (IsS70.apart (show IsS70 w _ g444 t442 t455 from by repeat (first | (with_reducible first | exact HI444.out | apply IsS70.alloc | apply IsS70.drewN | apply IsS70.drew | apply IsS70.set_1) | exact HI444.out)) (U HO450.out) (by decide)) hk (fun _ h => h.2)) (fun _ h => h.1)); replace HB := Aside0.mk (hb); replace HI444 := Aside0.mk (hi); (try clear hb); (try clear hk); (try clear hi)))
  go_ret3
  exact ⟨_, _, by first | rfl | (simp [errW_none, errW_some] <;> rfl) | (simp [*, errW_none, errW_some] <;> rfl), U HO447.out, U HO450.out, by repeat (first | (with_reducible first | exact HB.out | apply below_alloc | apply pw_below_drewN | apply below_drew1 | refine below_set ?_ (IsS70.ge HI444.out)) | exact HB.out)⟩

-- NOT PRINTED: function 54 (impl_vectors)

/-! ### impl_vectors, impl_ConicMany: functions 54, 26 (the numbers are those of seat a5) -/
/-- So many rounds, from an integer on. -/
def vecL {σ : Type} (f : Int → σ → Option σ) : Nat → Int → σ → Option σ
  | 0, _, s => some s
  | c + 1, x, s => (f x s).bind (vecL f c (x + 1))
/-- What becomes of a state when it is told of all vectors that go on from some integers. -/
def vecR {σ : Type} (step : List Int → σ → Option σ) (n : Nat) : Nat → List Int → σ → Option σ
  | 0, p, s => step p s
  | m + 1, p, s => vecL (fun x s => vecR step n m (p ++ [x]) s) (2 * n + 1) (-(n : Int)) s
/-- The variables of impl.vectors, and the vector. -/
structure VS (gm gt gv gn gy ga cv : Nat) (tell : Value) (many n : Nat) (W : World) (vs : List Int) : Prop where
  bm : W.heap[gm]? = some (.cells #[.int .i64 (many : Int)] 3 (0, 0))
  bt : W.heap[gt]? = some (.cells #[tell] 63 (0, 0))
  bv : W.heap[gv]? = some (.cells #[.slice (some ⟨ga, 0, none⟩) many cv] 23 (0, 0))
  bn : W.heap[gn]? = some (.cells #[.int .i64 (n : Int)] 3 (0, 0))
  bf : W.heap[gy]? = some (.cells #[.func (.func 65) #[] #[.pointer (some ⟨gm, 0, none⟩), .pointer (some ⟨gt, 0, none⟩), .pointer (some ⟨gv, 0, none⟩), .pointer (some ⟨gn, 0, none⟩), .pointer (some ⟨gy, 0, none⟩)]] 71 (0, 0))
  row : Kd.R (Kd.int .i64) 3 W 0 (fun _ => True) (.slice (some ⟨ga, 0, none⟩) many cv) vs
theorem VS.len {gm gt gv gn gy ga cv : Nat} {tell : Value} {many n : Nat} {W : World} {vs : List Int} (h : VS gm gt gv gn gy ga cv tell many n W vs) : many = vs.length := (Kd.R_reads' h.row).1
/-- Nothing of it is written. -/
theorem VS.same {bad : Nat → Prop} {gm gt gv gn gy ga cv : Nat} {tell : Value} {many n : Nat} {W W' : World} {vs : List Int} (h : VS gm gt gv gn gy ga cv tell many n W vs) (hs : Same bad W W') (hb : ∀ g, (g = gm ∨ g = gt ∨ g = gv ∨ g = gn ∨ g = gy ∨ g = ga) → ¬ bad g) : VS gm gt gv gn gy ga cv tell many n W' vs :=
  ⟨(hs.2 gm (blk_lt h.bm) (hb gm (.inl rfl))).trans h.bm, (hs.2 gt (blk_lt h.bt) (hb gt (.inr (.inl rfl)))).trans h.bt, (hs.2 gv (blk_lt h.bv) (hb gv (.inr (.inr (.inl rfl))))).trans h.bv,
    (hs.2 gn (blk_lt h.bn) (hb gn (.inr (.inr (.inr (.inl rfl)))))).trans h.bn, (hs.2 gy (blk_lt h.bf) (hb gy (.inr (.inr (.inr (.inr (.inl rfl))))))).trans h.bf,
    Kd.R_mono (Kd.R_step (Kd.R_tight rfl h.row) (fun k hk hlt => hs.2 k hlt (hb k (.inr (.inr (.inr (.inr (.inr (Option.some.inj (hk : some k = some ga)))))))))) (fun _ _ => trivial)⟩
theorem VS.below {gm gt gv gn gy ga cv : Nat} {tell : Value} {many n : Nat} {W W' : World} {vs : List Int} (h : VS gm gt gv gn gy ga cv tell many n W vs) (hb : Below W.heap.size W W') : VS gm gt gv gn gy ga cv tell many n W' vs := h.same (bad := fun _ => False) (Same.below hb) (fun _ _ => id)
/-- An integer of the vector is written. -/
theorem VS.put {gm gt gv gn gy ga cv : Nat} {tell : Value} {many n : Nat} {W : World} {vs : List Int} (h : VS gm gt gv gn gy ga cv tell many n W vs) (hn : gm ≠ ga ∧ gt ≠ ga ∧ gv ≠ ga ∧ gn ≠ ga ∧ gy ≠ ga) (j : Nat) (x : Int) : VS gm gt gv gn gy ga cv tell many n (W.setCell ⟨ga, j, none⟩ (.int .i64 x)) (vs.set j x) :=
  ⟨blk_far h.bm hn.1 _, blk_far h.bt hn.2.1 _, blk_far h.bv hn.2.2.1 _, blk_far h.bn hn.2.2.2.1 _, blk_far h.bf hn.2.2.2.2 _, (Kd.R_putg h.row (j : Int) x).1⟩
theorem rd_take {vs : List Int} {j : Nat} (hj : j < vs.length) : vs.take (j + 1) = vs.take j ++ [rd vs (j : Int)] := by
  rw [List.take_add_one, List.getElem?_eq_getElem hj]; unfold rd; simp [hj]
set_option maxHeartbeats 4000000 in
set_option maxRecDepth 100000 in
theorem vectors_try {σ : Type} (I : σ → World → Prop) (step : List Int → σ → Option σ) (w : World) (gm gt gv gn gy ga cv many n : Nat) (u1 u2 u3 : Value)
    (hm : many ≤ 1000) (hn6 : n ≤ 1000) (hne : gm ≠ ga ∧ gt ≠ ga ∧ gv ≠ ga ∧ gn ≠ ga ∧ gy ≠ ga) (hga : w.heap.size ≤ ga)
    (HT : ∀ W vs s s', VS gm gt gv gn gy ga cv (.func (.func 55) #[] #[u1, u2, u3]) many n W vs → I s W → Below w.heap.size w W → step vs s = some s' →
      Calls Try.prog 55 #[.slice (some ⟨ga, 0, none⟩) many cv, u1, u2, u3] W fun e W' => e = .returned (.tuple #[]) ∧ VS gm gt gv gn gy ga cv (.func (.func 55) #[] #[u1, u2, u3]) many n W' vs ∧ I s' W' ∧ Below w.heap.size w W')
    (HI : ∀ s W i x, I s W → I s (W.setCell ⟨ga, i, none⟩ x)) (HD : ∀ s W W', I s W → Below W.heap.size W W' → I s W') :
    ∀ (r j : Nat) (a : Int) (W : World) (vs : List Int) (s s' : σ), a = (j : Int) → j + r = many → VS gm gt gv gn gy ga cv (.func (.func 55) #[] #[u1, u2, u3]) many n W vs → I s W → Below w.heap.size w W → vecR step n r (vs.take j) s = some s' →
      Calls Try.prog 65 #[.int .i64 a, .pointer (some ⟨gm, 0, none⟩), .pointer (some ⟨gt, 0, none⟩), .pointer (some ⟨gv, 0, none⟩), .pointer (some ⟨gn, 0, none⟩), .pointer (some ⟨gy, 0, none⟩)] W fun e W' =>
        e = .returned (.tuple #[]) ∧ (∃ vs', vs'.take j = vs.take j ∧ VS gm gt gv gn gy ga cv (.func (.func 55) #[] #[u1, u2, u3]) many n W' vs') ∧ I s' W' ∧ Below w.heap.size w W' := by
  intro r
  induction r with
  | zero =>
    intro j a W vs s s' ha hj hV hI hB hs
    have hl := hV.len
    subst ha
    obtain rfl : j = many := by omega
    rw [List.take_of_length_le (by omega)] at hs
    have HV := Aside0.mk hV; have HIW := Aside0.mk hI; have HB := Aside0.mk hB; have HS := Aside0.mk hs
    have c1 := cell_of_one hV.bm; have c2 := cell_of_one hV.bt; have c3 := cell_of_one hV.bv
    clear hV hI hB hs hl hj
    go_enter Try.func65, Try.ntmps65
    go_wp2_with (go_at_call 55; refine (HT W vs s s' HV.out HIW.out HB.out HS.out).mono ?_; rintro e w1 ⟨rfl, hV1, hI1, hB1⟩; have HV1 := Aside0.mk hV1; have HI1 := Aside0.mk hI1; have HB1 := Aside0.mk hB1; clear hV1 hI1 hB1)
    exact bodyPost_ret (results_none (by rfl) _ _ _) rfl ⟨rfl, ⟨vs, rfl, HV1.out⟩, HI1.out, HB1.out⟩
  | succ r ih =>
    intro j a W vs s s' ha hj hV hI hB hs
    have hl := hV.len
    subst ha
    have hjl : j < vs.length := by omega
    obtain ⟨hx0, hf0⟩ := Kd.R_celln 0 hV.row (j : Int) (by omega) (by omega)
    have hx0 : W.cell? ⟨ga, j, none⟩ = some (.int .i64 (rdOf 0 vs (j : Int))) := hx0
    have hf0 : W.frozen? ⟨ga, j, none⟩ = false := hf0
    have HP := Aside0.mk (hV.put hne j (-(n : Int)))
    have HV := Aside0.mk hV; have HIW := Aside0.mk (HI s W j (.int .i64 (-(n : Int))) hI); have HB := Aside0.mk (below_set hB hga : Below w.heap.size w (W.setCell ⟨ga, j, none⟩ (.int .i64 (-(n : Int))))); have HS := Aside0.mk hs
    have c1 := cell_of_one hV.bm; have c3 := cell_of_one hV.bv; have c4 := cell_of_one hV.bn
    have cb : ((j : Int) == (many : Int)) = false := beq_eq_false_iff_ne.mpr (by omega)
    have q1 : (0 ≤ (j : Int)) = True := eq_true (by omega); have q2 : ((j : Int) < (many : Int)) = True := eq_true (by omega)
    have HL := Aside0.mk hl; have HJ := Aside0.mk hj; have HJL := Aside0.mk hjl
    clear hV hI hB hs hl hj hjl
    go_enter Try.func65, Try.ntmps65
    go_wp2
    go_loopg [] (2 * n + 1) (fun kq W1 => ∃ (x : Int) (vs1 : List Int) (s1 : σ), Aside0 (x + kq = n + 1) ∧ Aside0 (-(n : Int) ≤ x) ∧ Aside0 (VS gm gt gv gn gy ga cv (.func (.func 55) #[] #[u1, u2, u3]) many n W1 vs1) ∧ Aside0 (vs1.take j = vs.take j) ∧ Aside0 (rd vs1 (j : Int) = x) ∧ Aside0 (I s1 W1) ∧ Aside0 (Below w.heap.size w W1) ∧ Aside0 (vecL (fun x s => vecR step n r (vs.take j ++ [x]) s) kq x s1 = some s'))
    case atStart =>
      exact ⟨-(n : Int), vs.set j (-(n : Int)), s, ⟨by omega⟩, ⟨Int.le_refl _⟩, HP, ⟨by rw [List.take_set_of_le (Nat.le_refl _)]⟩, ⟨by unfold rd; simp [HJL.out]⟩, HIW, HB, HS⟩
    case round =>
      clear hx0 hf0 c1 c3 c4 HP HIW HB HS
      obtain ⟨x, vs1, s1, HX, HX0, HV1, HT1, HR, HI1, HB1, HS1⟩ := hrel
      have hl1 := HV1.out.len
      have hj1 : j < vs1.length := by have := HJL.out; have := HL.out; omega
      obtain ⟨hx0, hf0⟩ := Kd.R_celln 0 HV1.out.row (j : Int) (by omega) (by omega)
      have hx0 : wr.cell? ⟨ga, j, none⟩ = some (.int .i64 x) := by have h_ : wr.cell? ⟨ga, j, none⟩ = some (.int .i64 (rd vs1 (j : Int))) := hx0; rw [HR.out] at h_; exact h_
      have hf0 : wr.frozen? ⟨ga, j, none⟩ = false := hf0
      have c3 := cell_of_one HV1.out.bv; have c4 := cell_of_one HV1.out.bn; have c5 := cell_of_one HV1.out.bf
      have LT1 := Aside0.mk hj1; clear hl1 hj1
      cases gk with
      | zero =>
        have cx : decide (x ≤ (n : Int)) = false := decide_eq_false (by have := HX.out; omega)
        have H := HS1.out; simp only [vecL] at H; have H := Option.some.inj H; subst H
        go_wp2
        go_quiet (fail)
        go_wp2
        go_end0
        exact ⟨rfl, ⟨vs1, HT1.out, HV1.out.below (FU (Aside0.mk (Below.refl _ _)))⟩, HD _ _ _ HI1.out (FU (Aside0.mk (Below.refl _ _))), below_step HB1.out (FU (Aside0.mk (Below.refl _ _)))⟩
      | succ c =>
        have cx : decide (x ≤ (n : Int)) = true := decide_eq_true (by have := HX.out; omega)
        have H := HS1.out; clear HS1; simp only [vecL] at H; obtain ⟨s2, A2, H⟩ := bnd H
        have HQ := Aside0.mk (fun nq : Nat => ih (j + 1) ((j : Int) + 1) (wr.drewN nq) vs1 s1 s2 (by omega) (by have := HJ.out; omega) (HV1.out.below (pw_below_drewN (Below.refl _ _) nq)) (HD _ _ _ HI1.out (pw_below_drewN (Below.refl _ _) nq)) (below_step HB1.out (pw_below_drewN (Below.refl _ _) nq)) (by rw [rd_take LT1.out, HT1.out, HR.out]; exact A2.out))
        have HN := Aside0.mk H; clear H
        have bj : (j : Int) ≤ 1000 := by have := HJ.out; omega
        go_wp2
        go_quiet (fail)
        go_wp2_with (go_at_call 65; refine (HQ.out _).mono ?_; rintro e w2 ⟨rfl, ⟨vs2, ht2, hV2⟩, hI2, hB2⟩; have e2 : rd vs2 (j : Int) = x ∧ vs2.take j = vs.take j := (by rw [rd_take LT1.out, HT1.out, HR.out, rd_take (by rw [← hV2.len]; have := HJ.out; omega)] at ht2; have h1 := List.append_inj' ht2 rfl; exact ⟨by simpa using h1.2, h1.1⟩); have HV2 := Aside0.mk (hV2.put hne j (x + 1)); have HT2 := Aside0.mk e2.2; have HI2 := Aside0.mk (HI s2 w2 j (.int .i64 (x + 1)) hI2); have HB2 := Aside0.mk (below_set hB2 hga : Below w.heap.size w (w2.setCell ⟨ga, j, none⟩ (.int .i64 (x + 1)))); have LT2 := Aside0.mk (show j < vs2.length by rw [← hV2.len]; have := HJ.out; omega); obtain ⟨hy0, hg0⟩ := Kd.R_celln 0 hV2.row (j : Int) (by omega) (by have := HJ.out; omega); have hy0 : w2.cell? ⟨ga, j, none⟩ = some (.int .i64 x) := (by have h_ : w2.cell? ⟨ga, j, none⟩ = some (.int .i64 (rd vs2 (j : Int))) := hy0; rw [e2.1] at h_; exact h_); have hg0 : w2.frozen? ⟨ga, j, none⟩ = false := hg0; have d3 := cell_of_one hV2.bv; have b1 : x ≤ 1000 := (by have := HX.out; omega); have b2 : -1000 ≤ x := (by have := HX0.out; omega); clear ht2 e2 hV2 hI2 hB2)
        go_roundg c
        case measure => omega
        case rel => exact ⟨x + 1, vs2.set j (x + 1), s2, ⟨by have := HX.out; omega⟩, ⟨by have := HX0.out; omega⟩, HV2, ⟨by rw [List.take_set_of_le (Nat.le_refl _)]; exact HT2.out⟩, ⟨by have := LT2.out; unfold rd; simp [this]⟩, HI2, HB2, HN⟩
set_option maxHeartbeats 4000000 in
set_option maxRecDepth 100000 in
theorem impl_vectors.calls {σ : Type} (I : σ → World → Prop) (step : List Int → σ → Option σ) (w W : World) (many n : Nat) (u1 u2 u3 : Value) (s s' : σ) (hm : many ≤ 1000) (hn6 : n ≤ 1000) (hB : Below w.heap.size w W) (hI : I s W)
    (HT : ∀ gm gt gv gn gy ga cv, (∀ g, (g = gm ∨ g = gt ∨ g = gv ∨ g = gn ∨ g = gy ∨ g = ga) → W.heap.size ≤ g) → ∀ W1 vs s s', VS gm gt gv gn gy ga cv (.func (.func 55) #[] #[u1, u2, u3]) many n W1 vs → I s W1 → Below w.heap.size w W1 → step vs s = some s' →
      Calls Try.prog 55 #[.slice (some ⟨ga, 0, none⟩) many cv, u1, u2, u3] W1 fun e W' => e = .returned (.tuple #[]) ∧ VS gm gt gv gn gy ga cv (.func (.func 55) #[] #[u1, u2, u3]) many n W' vs ∧ I s' W' ∧ Below w.heap.size w W')
    (HI : ∀ s W1 g i x, W.heap.size ≤ g → I s W1 → I s (W1.setCell ⟨g, i, none⟩ x)) (HD : ∀ s W1 W', I s W1 → Below W1.heap.size W1 W' → I s W') (hs : vecR step n many [] s = some s') (hp : 0 < many) :
    Calls Try.prog 54 #[.int .i64 (many : Int), .int .i64 (n : Int), .func (.func 55) #[] #[u1, u2, u3]] W fun e W' => e = .returned (.tuple #[]) ∧ I s' W' ∧ Below w.heap.size w W' := by
  have F0 := Aside0.mk (Below.refl W.heap.size W); have HB0 := Aside0.mk hB; have HI0 := Aside0.mk hI; have HS := Aside0.mk hs; have HP0 := Aside0.mk hp
  have bm0 : (0 : Int) ≤ (many : Int) := by omega
  have bm1 : (many : Int) ≤ 1000 := by omega
  clear hB hI hs hp; go_enter Try.func54, Try.ntmps54
  go_wp2_with (first | ((with_reducible refine gate_dst (N := 3) rfl ?_); refine boxE (N := 3) (cs := #[.int .i64 (many : Int)]) (t := 3) ?_; intro gm hg w1 hbox hb; have BM := Aside0.mk hbox; have GM := Aside0.mk (show W.heap.size ≤ gm by rw [hg]; exact (FU F0).size); replace F0 := FS F0 hb; clear hb hbox hg) | ((with_reducible refine gate_dst (N := 4) rfl ?_); refine boxE (N := 4) (cs := #[.int .i64 (n : Int)]) (t := 3) ?_; intro gn hg w2 hbox hb; have BN := Aside0.mk hbox; have GN := Aside0.mk (show W.heap.size ≤ gn by rw [hg]; exact (FU F0).size); replace BM := bB BM hb; replace F0 := FS F0 hb; clear hb hbox hg) | ((with_reducible refine gate_dst (N := 5) rfl ?_); refine boxE (N := 5) (cs := #[.func (.func 55) #[] #[u1, u2, u3]]) (t := 63) ?_; intro gt hg w3 hbox hb; have BT := Aside0.mk hbox; have GT := Aside0.mk (show W.heap.size ≤ gt by rw [hg]; exact (FU F0).size); replace BM := bB BM hb; replace BN := bB BN hb; replace F0 := FS F0 hb; clear hb hbox hg; have c1 := cell_of_one BM.out) | ((with_reducible refine gate_dst (N := 9) rfl ?_); refine Kd.R_make (Kd.int .i64) _ 3 rfl (N := 9) rfl 23 _ _ rfl (many : Int) rfl rfl Try.underlying23 (.int .i64 0) 8 info3 rfl (by decide) (by omega) 0 (ok := fun _ => True) (okp := fun _ => True) rfl (fun _ hk => hk) trivial (by omega) (by omega) (Below.refl _ _) (Nat.le_refl _) ?_; intro v9 w4 ho hb hg_ hnew_; clear hg_ hnew_; simp only [Int.toNat_natCast] at ho; have HR := Aside0.mk (Kd.R_lower ho (FU F0).size); obtain ⟨ga, cv, ee, gbe, gle, HGe⟩ := Kd.R_form ho (by rw [List.length_replicate]; exact HP0.out); rw [List.length_replicate] at ee; subst ee; have NAM := Aside0.mk (show gm ≠ ga from Nat.ne_of_lt (Nat.lt_of_lt_of_le (blk_lt BM.out) gbe)); have NAN := Aside0.mk (show gn ≠ ga from Nat.ne_of_lt (Nat.lt_of_lt_of_le (blk_lt BN.out) gbe)); have NAT := Aside0.mk (show gt ≠ ga from Nat.ne_of_lt (Nat.lt_of_lt_of_le (blk_lt BT.out) gbe)); have GA := Aside0.mk (Nat.le_trans (FU F0).size gbe); have LA := Aside0.mk gle; replace BM := bB BM hb; replace BN := bB BN hb; replace BT := bB BT hb; replace F0 := FS F0 hb; clear hb ho gbe gle HGe) | ((with_reducible refine gate_dst (N := 6) rfl ?_); refine boxE (N := 6) (cs := #[.slice none 0 0]) (t := 23) ?_; intro gv hg w5 hbox hb; have BV := Aside0.mk hbox; have GV := Aside0.mk (show W.heap.size ≤ gv by rw [hg]; exact (FU F0).size); have NAV := Aside0.mk (show gv ≠ ga by rw [hg]; exact Nat.ne_of_gt LA.out); have NVM := NG BM hg; have NVN := NG BN hg; have NVT := NG BT hg; replace HR := Aside0.mk (Kd.R_below (U HR.out) hb); replace BM := bB BM hb; replace BN := bB BN hb; replace BT := bB BT hb; replace F0 := FS F0 hb; clear hb hbox hg; have c5 := cell_of_one BV.out; have f5 := free_of_one BV.out) | ((with_reducible refine gate_dst (N := 7) rfl ?_); refine boxE (N := 7) (cs := #[.nilFunc]) (t := 71) ?_; intro gy hg w6 hbox hb; have BY := Aside0.mk hbox; replace hg : gy = w5.heap.size := (by rw [hg]; simp); have GY := Aside0.mk (show W.heap.size ≤ gy by rw [hg]; exact (FU F0).size); have NAY := Aside0.mk (show gy ≠ ga by rw [hg]; have := blk_lt BV.out; have := NAV.out; exact Nat.ne_of_gt (Kd.R_lt HR.out ga rfl)); have NYM := Aside0.mk (show gm ≠ gy by rw [hg]; exact Nat.ne_of_lt (blk_lt BM.out)); have NYN := Aside0.mk (show gn ≠ gy by rw [hg]; exact Nat.ne_of_lt (blk_lt BN.out)); have NYT := Aside0.mk (show gt ≠ gy by rw [hg]; exact Nat.ne_of_lt (blk_lt BT.out)); have NYV := Aside0.mk (show gv ≠ gy by rw [hg]; exact Nat.ne_of_lt (blk_lt BV.out)); replace HR := Aside0.mk (Kd.R_below (Kd.R_far (p := ⟨gv, 0, none⟩) (Kd.R_types HR.out BV.out (by decide)) (fun _ hk => hk.2) (.slice (some ⟨ga, 0, none⟩) many cv)) hb); have q1_ := Aside0.mk (blk_below (blk_far (p := ⟨gv, 0, none⟩) BM.out NVM.out.symm (.slice (some ⟨ga, 0, none⟩) many cv)) hb); have q2_ := Aside0.mk (blk_below (blk_far (p := ⟨gv, 0, none⟩) BN.out NVN.out.symm (.slice (some ⟨ga, 0, none⟩) many cv)) hb); have q3_ := Aside0.mk (blk_below (blk_far (p := ⟨gv, 0, none⟩) BT.out NVT.out.symm (.slice (some ⟨ga, 0, none⟩) many cv)) hb); have q4_ := Aside0.mk (blk_below (show (w5.setCell ⟨gv, 0, none⟩ (.slice (some ⟨ga, 0, none⟩) many cv)).heap[gv]? = some (.cells #[.slice (some ⟨ga, 0, none⟩) many cv] 23 (0, 0)) from one_setCell BV.out) hb); replace F0 := Aside0.mk (below_step (below_set F0.out GV.out) hb); clear BM BN BT BV hb hbox hg c1 c5 f5; have BM := q1_; have BN := q2_; have BT := q3_; have BV := q4_; clear q1_ q2_ q3_ q4_; have GALL := Aside0.mk (show ∀ g, (g = gm ∨ g = gt ∨ g = gv ∨ g = gn ∨ g = gy ∨ g = ga) → W.heap.size ≤ g from (by intro g h; rcases h with h | h | h | h | h | h; (rw [h]; exact GM.out); (rw [h]; exact GT.out); (rw [h]; exact GV.out); (rw [h]; exact GN.out); (rw [h]; exact GY.out); (rw [h]; exact GA.out))); have c7 := cell_of_one BY.out; have f7 := free_of_one BY.out) | (go_at_call 65; refine (vectors_try I step w gm gt gv gn gy ga cv many n u1 u2 u3 hm hn6 ⟨NAM.out, NAT.out, NAV.out, NAN.out, NAY.out⟩ (Nat.le_trans HB0.out.size GA.out) (HT gm gt gv gn gy ga cv GALL.out) (fun s W1 i x h => HI s W1 ga i x GA.out h) HD many 0 0 _ (List.replicate many 0) s s' rfl (Nat.zero_add _) ⟨blk_far BM.out NYM.out _, blk_far BT.out NYT.out _, blk_far BV.out NYV.out _, blk_far BN.out NYN.out _, one_setCell BY.out, Kd.R_lower (Kd.R_mono (Kd.R_far (p := ⟨gy, 0, none⟩) (Kd.R_types HR.out BY.out (by decide)) (fun _ hk => hk.2) _) (fun _ _ => trivial)) (Nat.zero_le _)⟩ (HI s _ gy 0 _ GY.out (HD s W _ HI0.out F0.out)) (below_set (below_step HB0.out F0.out) (Nat.le_trans HB0.out.size GY.out)) HS.out).mono ?_; rintro e w7 ⟨rfl, _, hI7, hB7⟩; have HI7 := Aside0.mk hI7; have HB7 := Aside0.mk hB7; clear hI7 hB7))
  go_end0
  exact ⟨rfl, HI7.out, HB7.out⟩
theorem mlaid : laidOutB Try.prog = true := by kernel_rfl
theorem mrow : (62 : TypeId) < Try.prog.types.size := of_decide_eq_true (by kernel_rfl)
theorem mcells3 : Try.prog.cellsOf 3 = 1 := by kernel_rfl
theorem mcells62 : Try.prog.cellsOf 62 = 3 := by kernel_rfl
theorem marr : WideMaps.ArrKey Try.prog 62 3 3 := ⟨Try.underlying62, by kernel_rfl, mcells3, mcells62⟩
theorem mwide : (match Try.prog.underlying 62 with | some (.array _ _) | some (.struct _) => true | _ => false) = true := by rw [Try.underlying62]
theorem mlaw : Maps.Keyed Try.prog 62 := Maps.Keyed.of_law (deep_law_laid mlaid (m := 2) (by omega) mrow (by kernel_rfl) mwide)
theorem msize : ∃ m, Try.prog.types.size = m + 1 := ⟨Try.prog.types.size - 1, (Nat.sub_add_cancel (Nat.lt_of_le_of_lt (Nat.zero_le _) mrow)).symm⟩
theorem wf64 {a : Int} (h : -9223372036854775808 ≤ a ∧ a ≤ 9223372036854775807) : (Lit.int .i64 a).wf = true := WalkArith.wf_i64 h
/-- What a key reads as. -/
def mkey (a b c : Int) : Lit := .string (keyBytes [.int .i64 a, .int .i64 b, .int .i64 c])
theorem keyOf_tri {a b c : Int} (wa : (Lit.int .i64 a).wf = true) (wb : (Lit.int .i64 b).wf = true) (wc : (Lit.int .i64 c).wf = true) : keyOf Try.prog 62 (.agg #[.int .i64 a, .int .i64 b, .int .i64 c]) = some (mkey a b c) := by
  have A := marr
  have he : Try.prog.underlying 3 = some (.int .i64) := Try.underlying3
  have hkt := A.keyType msize
  obtain ⟨m, hm⟩ := msize
  unfold keyOf mkey
  simp only [A.hu]
  rw [if_pos (by simp [hkt, Value.formed, A.hu, A.size]), hm]
  unfold Program.keyLits
  simp only [A.hu, Value.cells]
  rw [if_pos (by rw [A.size]; rfl), show List.range 3 = [0, 1, 2] from rfl, List.mapM_cons, List.mapM_cons, List.mapM_cons, List.mapM_nil]
  simp [A.one, Program.keyLits, he, wa, wb, wc]
/-- The integers of a vector are int's. -/
def Wf (z : List Int) : Prop := ∀ x ∈ z, (Lit.int .i64 x).wf = true
/-- A block is a map whose keys are some vectors. -/
def MetM (mb : Nat) (s : List (List Int)) (W : World) : Prop := ∃ D : DataW Unit, W.ownsMap Try.prog 62 (plainElem Try.prog 4) mb s.length D ∧ Maps.size D = s.length ∧ ∀ a b c : Int, Wf [a, b, c] → Maps.has D (mkey a b c) = decide ([a, b, c] ∈ s)
theorem MetM.of {mb : Nat} {s : List (List Int)} {W W' : World} (h : MetM mb s W) (he : W'.heap[mb]? = W.heap[mb]?) : MetM mb s W' := by
  obtain ⟨D, ⟨es, clock, hb, r⟩, h2⟩ := h
  exact ⟨D, ⟨es, clock, he.trans hb, r⟩, h2⟩
theorem MetM.lt {mb : Nat} {s : List (List Int)} {W : World} (h : MetM mb s W) : mb < W.heap.size := by obtain ⟨D, h, _⟩ := h; exact h.lt
theorem MetM.made (W : World) : MetM W.heap.size [] (W.alloc (.map #[] 0)) := ⟨.map [], World.ownsMap_made _ _ _ _, rfl, fun _ _ _ _ => rfl⟩
theorem owns_low {W : World} {mb n : Nat} {D : DataW Unit} (h : W.ownsMap Try.prog 62 (plainElem Try.prog 4) mb n D) : W.ownsMap Try.prog 62 (plainElem Try.prog 4) mb (Maps.size D) D := by
  obtain ⟨es, clock, hb, F, hs, rfl⟩ := h
  exact ⟨es, clock, hb, F, by simp [Maps.size, length_sorted], rfl⟩
/-- One more vector is stored. -/
theorem MetM.put {mb : Nat} {s : List (List Int)} {W w1 : World} {a b c n : Int} {k : Nat} {D : DataW Unit} (hw : Wf [a, b, c]) (h0 : W.ownsMap Try.prog 62 (plainElem Try.prog 4) mb k D) (h1 : Maps.size D = s.length) (h2 : ∀ a b c : Int, Wf [a, b, c] → Maps.has D (mkey a b c) = decide ([a, b, c] ∈ s))
    (h : w1.ownsMap Try.prog 62 (plainElem Try.prog 4) mb (k + 1) (D.put (mkey a b c) (.lit (.bool true)))) : MetM mb (if [a, b, c] ∈ s then s else s ++ [[a, b, c]]) w1 := by
  have ht := h0.tidy mlaw
  have wa := hw a (by simp); have wb := hw b (by simp); have wc := hw c (by simp)
  have hk : WideAt.IsKeyLit (mkey a b c) := mlaw.key (keyOf_tri wa wb wc)
  have hsz := Maps.size_put (k := mkey a b c) ht (.lit (.bool true))
  have hl := owns_low h
  rw [hsz, h2 a b c hw] at hl
  refine ⟨_, ?_, by rw [hsz, h2 a b c hw, h1]; by_cases hm : [a, b, c] ∈ s <;> simp [hm], fun a' b' c' hw' => ?_⟩
  · rw [h1] at hl; by_cases hm : [a, b, c] ∈ s
    · simpa [hm] using hl
    · simpa [hm] using hl
  · by_cases e : [a', b', c'] = [a, b, c]
    · simp only [List.cons.injEq, and_true] at e
      obtain ⟨rfl, rfl, rfl⟩ := e
      rw [Maps.has_put_same ht.isMap hk]
      by_cases hm : [a', b', c'] ∈ s <;> simp [hm]
    · have hne : mkey a' b' c' ≠ mkey a b c := fun q => e (by
        have k1 := keyOf_tri (hw' a' (by simp)) (hw' b' (by simp)) (hw' c' (by simp))
        rw [q] at k1
        have := mlaw.inj k1 (keyOf_tri wa wb wc)
        simpa using this)
      rw [Maps.has_put_other hne, h2 a' b' c' hw']
      by_cases hm : [a, b, c] ∈ s
      · simp [hm]
      · simp only [if_neg hm, List.mem_append, List.mem_singleton, e, or_false]
/-- What the closure of impl.ConicMany does to the vectors that were met. -/
def impl_ConicMany.t (k : Nat) (form v h : List Int) (s : List (List Int)) : Option (List (List Int)) :=
  (impl_gcd.f k h).bind fun g => if g = 0 then some s else ((impl_plain.f k h).bind fun p => ((slices_Equal_int_int.f k p h).bind fun q => if q = true then ((impl_ConicAt.f k form v (rd h 0) (rd h 1)).bind fun z => if z.2 = true then (if z.1.length = 3 ∧ ∀ x ∈ z.1, -9223372036854775808 ≤ x ∧ x ≤ 9223372036854775807 then (if s.length < 1000000 then some (if z.1 ∈ s then s else s ++ [z.1]) else none) else none) else some s) else some s))
/-- What the closure finds. -/
def MetI (g3 g4 g7 mb : Nat) (A0 : Option Addr) (c0 : Nat) (l0 : List Int) (A1 : Option Addr) (c1 : Nat) (l1 : List Int) (s : List (List Int)) (W : World) : Prop :=
  W.heap[g3]? = some (.cells #[.slice A0 l0.length c0] 23 (0, 0)) ∧ W.heap[g4]? = some (.cells #[.slice A1 l1.length c1] 23 (0, 0)) ∧ W.heap[g7]? = some (.cells #[.map (some mb)] 60 (0, 0)) ∧ MetM mb s W
theorem MetI.below {g3 g4 g7 mb : Nat} {A0 : Option Addr} {c0 : Nat} {l0 : List Int} {A1 : Option Addr} {c1 : Nat} {l1 : List Int} {s : List (List Int)} {W W' : World} (h : MetI g3 g4 g7 mb A0 c0 l0 A1 c1 l1 s W) (hb : Below W.heap.size W W') : MetI g3 g4 g7 mb A0 c0 l0 A1 c1 l1 s W' :=
  ⟨blk_below h.1 hb, blk_below h.2.1 hb, blk_below h.2.2.1 hb, h.2.2.2.of (hb.block _ h.2.2.2.lt)⟩
theorem VS.two {gm gt gv gn gy ga cv : Nat} {tell : Value} {n : Nat} {W : World} {vs : List Int} (h : VS gm gt gv gn gy ga cv tell 2 n W vs) : W.cell? ⟨ga, 0, none⟩ = some (.int .i64 (rd vs 0)) ∧ W.cell? ⟨ga, 1, none⟩ = some (.int .i64 (rd vs 1)) :=
  ⟨(Kd.R_celln 0 h.row 0 (by omega) (by omega)).1, (Kd.R_celln 0 h.row 1 (by omega) (by omega)).1⟩
theorem tell_keep {g3 g4 g7 mb : Nat} {A0 : Option Addr} {c0 : Nat} {l0 : List Int} {A1 : Option Addr} {c1 : Nat} {l1 : List Int} {s : List (List Int)} {gm gt gv gn gy ga cv n : Nat} {tell : Value} {W : World} {vs : List Int} (hV : VS gm gt gv gn gy ga cv tell 2 n W vs) (hI : MetI g3 g4 g7 mb A0 c0 l0 A1 c1 l1 s W) :
    W.cell? ⟨g3, 0, none⟩ = some (.slice A0 l0.length c0) ∧ W.cell? ⟨g4, 0, none⟩ = some (.slice A1 l1.length c1) ∧ W.cell? ⟨ga, 0, none⟩ = some (.int .i64 (rd vs 0)) ∧ W.cell? ⟨ga, 1, none⟩ = some (.int .i64 (rd vs 1)) := ⟨cell_of_one hI.1, cell_of_one hI.2.1, hV.two.1, hV.two.2⟩
set_option maxHeartbeats 4000000 in
set_option maxRecDepth 100000 in
theorem impl_ConicMany.tell (k : Nat) (A0 : Option Addr) (c0 : Nat) (l0 : List Int) (A1 : Option Addr) (c1 : Nat) (l1 : List Int) (w : World) (hr0 : Kd.C (Kd.int .i64) w A0 l0.length l0) (hc0 : l0.length ≤ c0) (hr1 : Kd.C (Kd.int .i64) w A1 l1.length l1) (hc1 : l1.length ≤ c1)
    (g3 g4 g7 mb : Nat) (hmb : w.heap.size ≤ mb) (gm gt gv gn gy ga cv n : Nat) (tell : Value) (W : World) (vs : List Int) (s s' : List (List Int)) (hV : VS gm gt gv gn gy ga cv tell 2 n W vs) (hI : MetI g3 g4 g7 mb A0 c0 l0 A1 c1 l1 s W) (hB : Below w.heap.size w W) (h : impl_ConicMany.t k l0 l1 vs s = some s') :
    Calls Try.prog 55 #[.slice (some ⟨ga, 0, none⟩) 2 cv, .pointer (some ⟨g3, 0, none⟩), .pointer (some ⟨g4, 0, none⟩), .pointer (some ⟨g7, 0, none⟩)] W fun e W' => e = .returned (.tuple #[]) ∧ VS gm gt gv gn gy ga cv tell 2 n W' vs ∧ MetI g3 g4 g7 mb A0 c0 l0 A1 c1 l1 s' W' ∧ Below w.heap.size w W' := by
  have HR0 := Aside0.mk hr0; have HC0 := Aside0.mk hc0; have HR1 := Aside0.mk hr1; have HC1 := Aside0.mk hc1; clear hr0 hc0 hr1 hc1
  have HVS := Aside0.mk hV; have HI := Aside0.mk hI; have HB := Aside0.mk hB; have F0 := Aside0.mk (Below.refl W.heap.size W)
  have HL := Aside0.mk hV.len; have HVC := Aside0.mk (Kd.R_reads' hV.row).2.2; have HVN := Aside0.mk (Kd.R_reads' hV.row).2.1
  rw [hV.len] at HVN
  clear hV hI hB
  unfold impl_ConicMany.t at h; have H := h; clear h
  obtain ⟨g, AG, H⟩ := bnd H
  by_cases cg : g = 0
  · rw [if_pos cg] at H; obtain rfl := Option.some.inj H; clear H
    have cgb : (g == 0) = true := beq_iff_eq.mpr cg; clear cg
    go_enter Try.func55, Try.ntmps55
    go_wp2_with (first | ((with_reducible refine gate_callee (f := 52) rfl ?_); refine goesK (some 8) Try.func52 #[.slice (some ⟨ga, 0, none⟩) 2 cv] ?_; refine calls_of_args (args' := #[.slice (some ⟨ga, 0, none⟩) vs.length cv]) (by rw [← HL.out]) ?_; (with_reducible refine (impl_gcd.calls k _ _ vs g _ ?side1 ?side2 AG.out).mono ?_); (case side1 => exact HVC.out); (case side2 => exact HVN.out); rintro e w1 ⟨rfl, hb⟩; refine ⟨_, rfl, ?_⟩; replace F0 := FS F0 hb; clear hb))
    exact bodyPost_ret (results_none (by rfl) _ _ _) rfl ⟨rfl, HVS.out.below (FU F0), HI.out.below (FU F0), below_step HB.out (FU F0)⟩
  rw [if_neg cg] at H; have cgb : (g == 0) = false := beq_eq_false_iff_ne.mpr cg; clear cg
  obtain ⟨p, AP, H⟩ := bnd H; obtain ⟨q, AQ, H⟩ := bnd H
  go_enter Try.func55, Try.ntmps55
  go_upto_if 16 with (first | ((with_reducible refine gate_callee (f := 52) rfl ?_); refine goesK (some 8) Try.func52 #[.slice (some ⟨ga, 0, none⟩) 2 cv] ?_; refine calls_of_args (args' := #[.slice (some ⟨ga, 0, none⟩) vs.length cv]) (by rw [← HL.out]) ?_; (with_reducible refine (impl_gcd.calls k _ _ vs g _ ?side1 ?side2 AG.out).mono ?_); (case side1 => exact HVC.out); (case side2 => exact HVN.out); rintro e w1 ⟨rfl, hb⟩; refine ⟨_, rfl, ?_⟩; replace F0 := FS F0 hb; clear hb) | ((with_reducible refine gate_callee (f := 33) rfl ?_); (try (refine gate_guard (by rfl) ?_; dsimp only)); refine goesK (some 12) Try.func33 #[.slice (some ⟨ga, 0, none⟩) 2 cv] ?_; refine calls_of_args (args' := #[.slice (some ⟨ga, 0, none⟩) vs.length cv]) (by rw [← HL.out]) ?_; (with_reducible refine (impl_plain.calls k _ _ vs p _ ?side1 ?side2 AP.out).mono ?_); (case side1 => exact Kd.C_below HVC.out (FU F0)); (case side2 => exact HVN.out); rintro e w2 ⟨v12, rfl, ho0, hb⟩; refine ⟨_, rfl, ?_⟩; have HP := Aside0.mk (Kd.R_lower ho0 (FU F0).size); replace F0 := FS F0 hb; clear hb ho0; obtain ⟨Ap, cp, ep⟩ := Kd.R_slice HP.out; subst ep) | ((with_reducible refine gate_callee (f := 32) rfl ?_); (try (refine gate_guard (by rfl) ?_; dsimp only)); refine goesK (some 14) Try.func32 #[.slice Ap p.length cp, .slice (some ⟨ga, 0, none⟩) 2 cv] ?_; refine calls_of_args (args' := #[.slice Ap p.length cp, .slice (some ⟨ga, 0, none⟩) vs.length cv]) (by rw [← HL.out]) ?_; (with_reducible refine (slices_Equal_int_int.calls k _ _ p _ _ vs q _ ?side1 ?side2 ?side3 ?side4 AQ.out).mono ?_); (case side1 => exact (Kd.R_reads' HP.out).2.2); (case side2 => exact (Kd.R_reads' HP.out).2.1); (case side3 => exact Kd.C_below HVC.out (FU F0)); (case side4 => exact HVN.out); rintro e w' ⟨rfl, ⟨nd, rfl⟩⟩; refine ⟨_, rfl, ?_⟩))
  by_cases cq : q = true
  · subst cq; replace H := ifT H
    obtain ⟨⟨z, o⟩, AZ, H⟩ := bnd H
    have H := (show (if o = true then (if z.length = 3 ∧ ∀ x ∈ z, -9223372036854775808 ≤ x ∧ x ≤ 9223372036854775807 then (if s.length < 1000000 then some (if z ∈ s then s else s ++ [z]) else none) else none) else some s) = some s' from H)
    go_upto_region 1 with (fail)
    obtain ⟨k1, k2, k3, k4⟩ := tell_keep (HVS.out.below F0.out) (HI.out.below F0.out)
    go_region_held3 (fun w' => w'.cell? ⟨g3, 0, none⟩ = some (.slice A0 l0.length c0) ∧ w'.cell? ⟨g4, 0, none⟩ = some (.slice A1 l1.length c1) ∧ w'.cell? ⟨ga, 0, none⟩ = some (.int .i64 (rd vs 0)) ∧ w'.cell? ⟨ga, 1, none⟩ = some (.int .i64 (rd vs 1))) (first | exact tell_keep (HVS.out.below F0.out) (HI.out.below F0.out) | go_keep)
      (first | (go_at_call 12; refine (impl_ConicAt.calls k A0 c0 l0 A1 c1 l1 (rd vs 0) (rd vs 1) z o _ (Kd.C_below HR0.out (below_step HB.out (FU F0))) HC0.out (Kd.C_below HR1.out (below_step HB.out (FU F0))) HC1.out AZ.out).mono ?_; rintro e w3 ⟨v26, rfl, ho0, hb⟩; have HZ := Aside0.mk (Kd.R_lower ho0 (FU F0).size); replace F0 := FS F0 hb; clear hb ho0))
    by_cases co : o = true
    · subst co; replace H := ifT H; obtain ⟨⟨hz3, hzw⟩, H⟩ := ifN H; obtain ⟨hs6, H⟩ := ifN H; have HS := Aside0.mk hs6; clear hs6; have HSS := Aside0.mk (Option.some.inj H); clear H
      obtain ⟨a, b, c, rfl⟩ : ∃ a b c : Int, z = [a, b, c] := by
        match z, hz3 with | [a, b, c], _ => exact ⟨a, b, c, rfl⟩
      obtain ⟨gz, cz, ez, gbz, glz, HGz⟩ := Kd.R_form HZ.out (by simp)
      have ez : v26 = .slice (some ⟨gz, 0, none⟩) 3 cz := ez
      subst ez
      obtain ⟨z0, _⟩ := Kd.R_celln 0 HZ.out 0 (by omega) (by omega); obtain ⟨z1, _⟩ := Kd.R_celln 0 HZ.out 1 (by omega) (by omega); obtain ⟨z2, _⟩ := Kd.R_celln 0 HZ.out 2 (by omega) (by omega)
      have z0 : w3.cell? ⟨gz, 0, none⟩ = some (.int .i64 a) := z0; have z1 : w3.cell? ⟨gz, 1, none⟩ = some (.int .i64 b) := z1; have z2 : w3.cell? ⟨gz, 2, none⟩ = some (.int .i64 c) := z2
      have c7 := cell_of_one (HI.out.below F0.out).2.2.1
      have hat : ∀ w, (Instr.arrayAt 62 (.slice (some ⟨gz, 0, none⟩) 3 cz)).run Try.prog w = .ok (.pointer (some ⟨gz, 0, none⟩)) w := fun w => run_arrayAt w 62 _ 3 _ 3 cz Try.underlying62 (by omega)
      have HW := Aside0.mk (show Wf [a, b, c] from fun x hx => wf64 (hzw x hx))
      obtain ⟨D, hD, hD1, hD2⟩ := (HI.out.below F0.out).2.2.2
      have HD := Aside0.mk hD; have HD1 := Aside0.mk hD1; have HD2 := Aside0.mk hD2; clear hD hD1 hD2 hzw hz3 gbz glz HGz
      go_upto_region 3 with (fail)
      go_still_tail 4, (by kernel_rfl)
      refine wpList_mapUpdate_own _ rfl _ _ _ 60 rfl 62 4 mlaw Try.underlying60 _ mb s.length D rfl HD.out (Nat.lt_of_lt_of_le HS.out (by decide)) _ _ (mkey a b c) rfl rfl (keyOf_tri (HW.out a (by simp)) (HW.out b (by simp)) (HW.out c (by simp))) (.lit (.bool true)) [] (plainElem_bool Try.underlying4 true) ?_
      intro w4 ho4 hg4
      replace hg4 : w3.grownBy w4 (some mb) := ⟨hg4.os, hg4.tape, hg4.output, hg4.size, hg4.block⟩
      have hlt := (HI.out.below F0.out).2.2.2.lt
      have hne : ∀ g, (∃ cs t fr, w3.heap[g]? = some (.cells cs t fr)) → g ≠ mb := fun g hg e => by
        obtain ⟨cs, t, fr, hg⟩ := hg
        obtain ⟨es, clock, hb, _⟩ := HD.out
        rw [e, hb] at hg; cases hg
      have V3 := HVS.out.below F0.out; have I3 := HI.out.below F0.out
      have hs4 : Same (fun i => i = mb) w3 w4 := Same.grown (Same.below (Below.refl _ _)) (by exact hg4) (fun i hi _ => Option.some.inj hi)
      have HV4 := Aside0.mk (V3.same hs4 (by
        rintro g (rfl | rfl | rfl | rfl | rfl | rfl)
        · exact hne _ ⟨_, _, _, V3.bm⟩
        · exact hne _ ⟨_, _, _, V3.bt⟩
        · exact hne _ ⟨_, _, _, V3.bv⟩
        · exact hne _ ⟨_, _, _, V3.bn⟩
        · exact hne _ ⟨_, _, _, V3.bf⟩
        · obtain ⟨cells, hc⟩ := Kd.R_typed V3.row _ rfl
          exact hne _ ⟨_, _, _, hc⟩))
      have HM4 := Aside0.mk (MetM.put (n := 0) HW.out HD.out HD1.out HD2.out ho4)
      have b3 := (hs4.2 g3 (blk_lt I3.1) (hne _ ⟨_, _, _, I3.1⟩)).trans I3.1
      have b4 := (hs4.2 g4 (blk_lt I3.2.1) (hne _ ⟨_, _, _, I3.2.1⟩)).trans I3.2.1
      have b7 := (hs4.2 g7 (blk_lt I3.2.2.1) (hne _ ⟨_, _, _, I3.2.2.1⟩)).trans I3.2.2.1
      have B4 : Below w.heap.size w w4 := Below.grown (w := w3) (below_step HB.out F0.out) (by exact hg4) (below_step HB.out F0.out).size (fun j hj => by cases hj; exact hmb)
      have I4 := Aside0.mk (show MetI g3 g4 g7 mb A0 c0 l0 A1 c1 l1 s' w4 from ⟨b3, b4, b7, HSS.out ▸ HM4.out⟩)
      have B4 := Aside0.mk B4
      clear b3 b4 b7 hs4 V3 I3 hne hlt ho4 hg4
      go_wp2
      go_end0
      exact ⟨rfl, HV4.out, I4.out, B4.out⟩
    replace co := Bool.eq_false_iff.mpr co; subst co; replace H := ifF H; obtain rfl := Option.some.inj H; clear H
    go_wp2
    go_end0
    exact ⟨rfl, HVS.out.below (FU F0), HI.out.below (FU F0), below_step HB.out (FU F0)⟩
  replace cq := Bool.eq_false_iff.mpr cq; subst cq; replace H := ifF H; obtain rfl := Option.some.inj H; clear H
  go_wp2
  exact bodyPost_ret (results_none (by rfl) _ _ _) rfl ⟨rfl, HVS.out.below (FU F0), HI.out.below (FU F0), below_step HB.out (FU F0)⟩
theorem MetI.far {g3 g4 g7 mb g : Nat} {i : Nat} {x : Value} {A0 : Option Addr} {c0 : Nat} {l0 : List Int} {A1 : Option Addr} {c1 : Nat} {l1 : List Int} {s : List (List Int)} {W : World} (h : MetI g3 g4 g7 mb A0 c0 l0 A1 c1 l1 s W) (n3 : g3 ≠ g) (n4 : g4 ≠ g) (n7 : g7 ≠ g) (nb : mb ≠ g) : MetI g3 g4 g7 mb A0 c0 l0 A1 c1 l1 s (W.setCell ⟨g, i, none⟩ x) :=
  ⟨blk_far h.1 n3 _, blk_far h.2.1 n4 _, blk_far h.2.2.1 n7 _, h.2.2.2.of (Below.heap_setCell _ _ _ _ nb)⟩
theorem mapE {ops : Array Oper} {rest : List Oper} {o : Oper} {a : Act} {Q : Exit → Act → World → Prop} {W : World}
    (h : ∀ g, g = W.heap.size → ∀ w1, MetM g [] w1 → Below W.heap.size W w1 → wpList Try.prog ops Q rest (a.put o.dst (.map (some g))) w1)
    (hgd : o.guard = none) (hrun : (execOp a.eval o).run Try.prog W = .ok (.value (.map (some W.heap.size))) (W.alloc (.map #[] 0))) : wpList Try.prog ops Q (o :: rest) a W :=
  Kd.event_run hgd hrun (h _ rfl _ (MetM.made W) (below_alloc (Below.refl _ _) _))
def impl_ConicMany.f (k : Nat) (l0 l1 : List Int) (a2 : Int) : Option Int :=
  (impl_ConicPoint.f k l0 l1).bind fun t => if t = true then (if a2 < 1 then some (-1) else (if a2 > 5 then some (-1) else ((vecR (impl_ConicMany.t k l0 l1) a2.toNat 2 [] []).bind fun s => some (s.length : Int)))) else some (-1)
theorem vecL_mono {σ : Type} {f g : Int → σ → Option σ} (h : ∀ x s, LeO (f x s) (g x s)) : ∀ c x s, LeO (vecL f c x s) (vecL g c x s)
  | 0, _, _ => LeO.refl _
  | c + 1, x, s => by unfold vecL; exact LeO.bind (h x s) (fun s => vecL_mono h c (x + 1) s)
theorem vecR_mono {σ : Type} {f g : List Int → σ → Option σ} (h : ∀ p s, LeO (f p s) (g p s)) (n : Nat) : ∀ m p s, LeO (vecR f n m p s) (vecR g n m p s)
  | 0, p, s => h p s
  | m + 1, p, s => by unfold vecR; exact vecL_mono (fun x s => vecR_mono h n m (p ++ [x]) s) _ _ _
theorem impl_ConicMany.t_mono (k : Nat) (l0 l1 h : List Int) (s : List (List Int)) : LeO (impl_ConicMany.t k l0 l1 h s) (impl_ConicMany.t (k + 1) l0 l1 h s) := by
  unfold impl_ConicMany.t
  with_reducible repeat' first | exact impl_gcd.mono _ _ | exact impl_plain.mono _ _ | exact slices_Equal_int_int.mono _ _ _ | exact impl_ConicAt.mono _ _ _ _ _ | exact LeO.refl _ | exact LeO.none _ | refine LeO.ite ?_ ?_ | refine LeO.bind ?_ (fun _ => ?_)
theorem impl_ConicMany.mono : ∀ a0 a1 a2 k, LeO (impl_ConicMany.f k a0 a1 a2) (impl_ConicMany.f (k + 1) a0 a1 a2) := by
  intro a0 a1 a2 k
  unfold impl_ConicMany.f
  refine LeO.bind (impl_ConicPoint.mono _ _ _) (fun _ => LeO.ite (LeO.ite (LeO.refl _) (LeO.ite (LeO.refl _) (LeO.bind (vecR_mono (fun p s => impl_ConicMany.t_mono k a0 a1 p s) _ _ _ _) (fun _ => LeO.refl _)))) (LeO.refl _))
set_option maxHeartbeats 4000000 in
set_option maxRecDepth 100000 in
theorem impl_ConicMany.calls (k : Nat) (A0 : Option Addr) (c0 : Nat) (l0 : List Int) (A1 : Option Addr) (c1 : Nat) (l1 : List Int) (a2 : Int) (r : Int) (w : World) (hr0 : Kd.C (Kd.int .i64) w A0 l0.length l0) (hc0 : l0.length ≤ c0) (hr1 : Kd.C (Kd.int .i64) w A1 l1.length l1) (hc1 : l1.length ≤ c1) (h : impl_ConicMany.f k l0 l1 a2 = some r) :
    Calls Try.prog 26 #[.slice A0 l0.length c0, .slice A1 l1.length c1, .int .i64 a2] w fun e w' => e = .returned (.int .i64 r) ∧ Below w.heap.size w w' := by
  have HR0 := Aside0.mk hr0; have HC0 := Aside0.mk hc0; have HR1 := Aside0.mk hr1; have HC1 := Aside0.mk hc1; clear hr0 hc0 hr1 hc1; have F0 := Aside0.mk (Below.refl w.heap.size w); unfold impl_ConicMany.f at h; have H := h; clear h; obtain ⟨t, AT, H⟩ := bnd H
  by_cases ct : t = true
  · subst ct; replace H := ifT H
    by_cases e1 : a2 < 1
    · rw [if_pos e1] at H; obtain rfl := Option.some.inj H; clear H
      have cb1 : decide (a2 < 1) = true := decide_eq_true e1; go_enter Try.func26, Try.ntmps26
      go_upto_if 19 with (first | ((with_reducible refine gate_dst (N := 3) rfl ?_); refine boxE (N := 3) (cs := #[.slice A0 l0.length c0]) (t := 23) ?_; intro g3 hg w1 hbox hb; have B3 := Aside0.mk hbox; replace F0 := FS F0 hb; clear hb hbox hg) | ((with_reducible refine gate_dst (N := 4) rfl ?_); refine boxE (N := 4) (cs := #[.slice A1 l1.length c1]) (t := 23) ?_; intro g4 hg w2 hbox hb; have B4 := Aside0.mk hbox; replace B3 := bB B3 hb; replace F0 := FS F0 hb; clear hb hbox hg; have d3 := cell_of_one B3.out; have d4 := cell_of_one B4.out) | ((with_reducible refine gate_callee (f := 9) rfl ?_); refine goesK (some 10) Try.func9 #[.slice A0 l0.length c0, .slice A1 l1.length c1] ?_; (with_reducible refine (impl_ConicPoint.calls k _ _ l0 _ _ l1 _ _ ?side1 ?side2 ?side3 ?side4 AT.out).mono ?_); (case side1 => exact Kd.C_below HR0.out (FU F0)); (case side2 => exact HC0.out); (case side3 => exact Kd.C_below HR1.out (FU F0)); (case side4 => exact HC1.out); rintro e w3 ⟨rfl, hb⟩; refine ⟨_, rfl, ?_⟩; replace B3 := bB B3 hb; replace B4 := bB B4 hb; replace F0 := FS F0 hb; clear hb))
      go_wp2
      go_ret
      exact ⟨rfl, FU F0⟩
    rw [if_neg e1] at H; have cb1 : decide (a2 < 1) = false := decide_eq_false e1
    by_cases e5 : a2 > 5
    · rw [if_pos e5] at H; obtain rfl := Option.some.inj H; clear H
      have cb5 : decide (5 < a2) = true := decide_eq_true e5; go_enter Try.func26, Try.ntmps26
      go_upto_if 19 with (first | ((with_reducible refine gate_dst (N := 3) rfl ?_); refine boxE (N := 3) (cs := #[.slice A0 l0.length c0]) (t := 23) ?_; intro g3 hg w1 hbox hb; have B3 := Aside0.mk hbox; replace F0 := FS F0 hb; clear hb hbox hg) | ((with_reducible refine gate_dst (N := 4) rfl ?_); refine boxE (N := 4) (cs := #[.slice A1 l1.length c1]) (t := 23) ?_; intro g4 hg w2 hbox hb; have B4 := Aside0.mk hbox; replace B3 := bB B3 hb; replace F0 := FS F0 hb; clear hb hbox hg; have d3 := cell_of_one B3.out; have d4 := cell_of_one B4.out) | ((with_reducible refine gate_callee (f := 9) rfl ?_); refine goesK (some 10) Try.func9 #[.slice A0 l0.length c0, .slice A1 l1.length c1] ?_; (with_reducible refine (impl_ConicPoint.calls k _ _ l0 _ _ l1 _ _ ?side1 ?side2 ?side3 ?side4 AT.out).mono ?_); (case side1 => exact Kd.C_below HR0.out (FU F0)); (case side2 => exact HC0.out); (case side3 => exact Kd.C_below HR1.out (FU F0)); (case side4 => exact HC1.out); rintro e w3 ⟨rfl, hb⟩; refine ⟨_, rfl, ?_⟩; replace B3 := bB B3 hb; replace B4 := bB B4 hb; replace F0 := FS F0 hb; clear hb))
      go_wp2
      go_ret
      exact ⟨rfl, FU F0⟩
    rw [if_neg e5] at H; have cb5 : decide (5 < a2) = false := decide_eq_false e5; obtain ⟨s, AS, H⟩ := bnd H; obtain rfl := Option.some.inj H; clear H; have hmm := @run_makeMap Try.prog; have N2 := Aside0.mk (show ((a2.toNat : Nat) : Int) = a2 by omega); have N5 := Aside0.mk (show a2.toNat ≤ 1000 by omega); clear e1 e5; go_enter Try.func26, Try.ntmps26
    go_upto_if 19 with (first | ((with_reducible refine gate_dst (N := 3) rfl ?_); refine boxE (N := 3) (cs := #[.slice A0 l0.length c0]) (t := 23) ?_; intro g3 hg w1 hbox hb; have B3 := Aside0.mk hbox; replace F0 := FS F0 hb; clear hb hbox hg) | ((with_reducible refine gate_dst (N := 4) rfl ?_); refine boxE (N := 4) (cs := #[.slice A1 l1.length c1]) (t := 23) ?_; intro g4 hg w2 hbox hb; have B4 := Aside0.mk hbox; replace B3 := bB B3 hb; replace F0 := FS F0 hb; clear hb hbox hg; have d3 := cell_of_one B3.out; have d4 := cell_of_one B4.out) | ((with_reducible refine gate_callee (f := 9) rfl ?_); refine goesK (some 10) Try.func9 #[.slice A0 l0.length c0, .slice A1 l1.length c1] ?_; (with_reducible refine (impl_ConicPoint.calls k _ _ l0 _ _ l1 _ _ ?side1 ?side2 ?side3 ?side4 AT.out).mono ?_); (case side1 => exact Kd.C_below HR0.out (FU F0)); (case side2 => exact HC0.out); (case side3 => exact Kd.C_below HR1.out (FU F0)); (case side4 => exact HC1.out); rintro e w3 ⟨rfl, hb⟩; refine ⟨_, rfl, ?_⟩; replace B3 := bB B3 hb; replace B4 := bB B4 hb; replace F0 := FS F0 hb; clear hb))
    go_wp2_with (first | ((with_reducible refine gate_dst (N := 20) rfl ?_); refine mapE ?_ rfl ?hr; (case hr => first | (go_simp; done) | (go_simp; rfl)); intro mb hg w5 hm hb; have HM := Aside0.mk hm; have GM := Aside0.mk (show w.heap.size ≤ mb by rw [hg]; exact (FU F0).size); replace B3 := bB B3 hb; replace B4 := bB B4 hb; replace F0 := FS F0 hb; clear hb hm hg) | ((with_reducible refine gate_dst (N := 7) rfl ?_); refine boxE (N := 7) (cs := #[.map none]) (t := 60) ?_; intro g7 hg w6 hbox hb; have B7 := Aside0.mk hbox; have G7 := Aside0.mk (show w.heap.size ≤ g7 by rw [hg]; exact (FU F0).size); have N73 := NL B3 hg; have N74 := NL B4 hg; have N7M := Aside0.mk (show mb ≠ g7 by rw [hg]; exact Nat.ne_of_lt HM.out.lt); replace HM := Aside0.mk (HM.out.of (hb.block _ HM.out.lt)); replace B3 := bB B3 hb; replace B4 := bB B4 hb; replace F0 := FS F0 hb; clear hb hbox hg; have d7 := cell_of_one B7.out; have e7 := free_of_one B7.out) | ((with_reducible refine gate_callee (f := 54) rfl ?_); refine goesK (some 23) Try.func54 #[.int .i64 2, .int .i64 a2, .func (.func 55) #[] #[.pointer (some ⟨g3, 0, none⟩), .pointer (some ⟨g4, 0, none⟩), .pointer (some ⟨g7, 0, none⟩)]] ?_; refine calls_of_args (args' := #[.int .i64 ((2 : Nat) : Int), .int .i64 ((a2.toNat : Nat) : Int), .func (.func 55) #[] #[.pointer (some ⟨g3, 0, none⟩), .pointer (some ⟨g4, 0, none⟩), .pointer (some ⟨g7, 0, none⟩)]]) (by rw [N2.out]; rfl) ?_; have hI0 : MetI g3 g4 g7 mb A0 c0 l0 A1 c1 l1 [] (w6.setCell ⟨g7, 0, none⟩ (.map (some mb))) := ⟨blk_far B3.out N73.out _, blk_far B4.out N74.out _, one_setCell B7.out, HM.out.of (Below.heap_setCell _ _ _ _ N7M.out)⟩; (refine (impl_vectors.calls (MetI g3 g4 g7 mb A0 c0 l0 A1 c1 l1) (impl_ConicMany.t k l0 l1) w (w6.setCell ⟨g7, 0, none⟩ (.map (some mb))) 2 a2.toNat _ _ _ [] s (by omega) N5.out (below_set F0.out G7.out) hI0 (fun gm gt gv gn gy ga cv _ W1 vs s s' hV hI hB h => impl_ConicMany.tell k A0 c0 l0 A1 c1 l1 w HR0.out HC0.out HR1.out HC1.out g3 g4 g7 mb GM.out gm gt gv gn gy ga cv a2.toNat _ W1 vs s s' hV hI hB h) (fun s W1 g i x hg h => h.far (Nat.ne_of_lt (Nat.lt_of_lt_of_le (blk_lt hI0.1) hg)) (Nat.ne_of_lt (Nat.lt_of_lt_of_le (blk_lt hI0.2.1) hg)) (Nat.ne_of_lt (Nat.lt_of_lt_of_le (blk_lt hI0.2.2.1) hg)) (Nat.ne_of_lt (Nat.lt_of_lt_of_le hI0.2.2.2.lt hg))) (fun s W1 W' h hb => h.below hb) AS.out (by omega)).mono ?_); rintro e w7 ⟨rfl, hI7, hB7⟩; refine ⟨_, rfl, ?_⟩; clear hI0; have c7 := cell_of_one hI7.2.2.1; obtain ⟨D, hD, hD1, _⟩ := hI7.2.2.2; have HD := Aside0.mk hD; have HD1 := Aside0.mk hD1; have HB7 := Aside0.mk hB7; clear hD hD1 hI7 hB7) | (at_len; refine wpList_len_own _ rfl _ 60 rfl 62 4 Try.underlying60 _ mb s.length D rfl HD.out ?_; rw [HD1.out]))
    go_ret
    exact ⟨rfl, HB7.out⟩
  replace ct := Bool.eq_false_iff.mpr ct; subst ct; replace H := ifF H; obtain rfl := Option.some.inj H; clear H; go_enter Try.func26, Try.ntmps26
  go_upto_if 19 with (first | ((with_reducible refine gate_dst (N := 3) rfl ?_); refine boxE (N := 3) (cs := #[.slice A0 l0.length c0]) (t := 23) ?_; intro g3 hg w1 hbox hb; have B3 := Aside0.mk hbox; replace F0 := FS F0 hb; clear hb hbox hg) | ((with_reducible refine gate_dst (N := 4) rfl ?_); refine boxE (N := 4) (cs := #[.slice A1 l1.length c1]) (t := 23) ?_; intro g4 hg w2 hbox hb; have B4 := Aside0.mk hbox; replace B3 := bB B3 hb; replace F0 := FS F0 hb; clear hb hbox hg; have d3 := cell_of_one B3.out; have d4 := cell_of_one B4.out) | ((with_reducible refine gate_callee (f := 9) rfl ?_); refine goesK (some 10) Try.func9 #[.slice A0 l0.length c0, .slice A1 l1.length c1] ?_; (with_reducible refine (impl_ConicPoint.calls k _ _ l0 _ _ l1 _ _ ?side1 ?side2 ?side3 ?side4 AT.out).mono ?_); (case side1 => exact Kd.C_below HR0.out (FU F0)); (case side2 => exact HC0.out); (case side3 => exact Kd.C_below HR1.out (FU F0)); (case side4 => exact HC1.out); rintro e w3 ⟨rfl, hb⟩; refine ⟨_, rfl, ?_⟩; replace B3 := bB B3 hb; replace B4 := bB B4 hb; replace F0 := FS F0 hb; clear hb))
  go_wp2
  go_ret
  exact ⟨rfl, FU F0⟩

end Go.Proofs.Ytpaohkhmhdhibaa.PFnConicMany
