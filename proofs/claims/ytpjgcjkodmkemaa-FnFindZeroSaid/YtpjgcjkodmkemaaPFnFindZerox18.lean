import Derived.Test.YtpjgcjkodmkemaaPFnFindZerox0
import Derived.Test.YtpjgcjkodmkemaaPFnFindZerox1
import Derived.Test.YtpjgcjkodmkemaaPFnFindZerox5
import Derived.Test.YtpjgcjkodmkemaaPFnFindZerox6
import Derived.Test.YtpjgcjkodmkemaaPFnFindZerox10
import Derived.Test.YtpjgcjkodmkemaaPFnFindZerox11
import Derived.Test.YtpjgcjkodmkemaaPFnFindZerox13
import Derived.Test.YtpjgcjkodmkemaaPFnFindZerox16
import Derived.Test.YtpjgcjkodmkemaaPFnFindZerox17
namespace Go.Proofs.Ytpjgcjkodmkemaa.PFnFindZero
open Go.RowKit Go.Proofs.YtpjgcjkodmkemaaW.PrintWords Go.Proofs.YtpjgcjkodmkemaaW.PrintLast Go.Proofs.YtpjgcjkodmkemaaW.PrintMore
attribute [local go_sem] max2_int min2_int max_two min_two max_three min_three max_four min_four   -- for this text's walks alone
set_option linter.unusedVariables false
set_option linter.unusedSimpArgs false

/-! ### spec_ZeroFind: function 18 -/
def spec_ZeroFind.f (k : Nat) (l0 : List Int) : Option (List Int × Bool) := (spec_FormValid.f k l0).bind fun t502 => (if t502 = true then (if (l0.length : Int) = 2 then (if 0 < (l0.length : Int) then ((spec_l1Core.f k (rd l0 0)).bind fun bt507 => (if 1 < (l0.length : Int) then ((spec_l1Core.f k (rd l0 1)).bind fun bt510 => (if (wrap64 (bt507.1 + bt510.1)) = 0 then ((spec_l5Plain.f k (([bt510.2, bt507.2] : List Int))).bind fun t515 => (some (t515, true))) else (some ((([] : List Int)), false)))) else (none))) else (none)) else (if (l0.length : Int) = 3 then ((spec_l5Three.f k l0).bind fun bt521 => (some (bt521.1, bt521.2))) else (if (l0.length : Int) = 4 then ((spec_l5Four.f k l0).bind fun bt525 => (some (bt525.1, bt525.2))) else (some ((([] : List Int)), false))))) else (some ((([] : List Int)), false)))
theorem spec_ZeroFind.mono : ∀ a0 k, LeO (spec_ZeroFind.f k a0) (spec_ZeroFind.f (k + 1) a0) := by
  intro a0 k
  unfold spec_ZeroFind.f
  with_reducible repeat' first | exact spec_FormValid.mono _ _ | exact spec_l1Core.mono _ _ | exact spec_l5Four.mono _ _ | exact spec_l5Plain.mono _ _ | exact spec_l5Three.mono _ _ | exact LeO.refl _ | exact LeO.none _ | refine LeO.ite ?_ ?_ | refine LeO.bind ?_ (fun _ => ?_)
set_option maxHeartbeats 8000000 in
set_option maxRecDepth 100000 in
theorem spec_ZeroFind.calls (k : Nat) (A0 : Option Addr) (c0 : Nat) (l0 : List Int) (r1 : List Int) (r2 : Bool) (w : World) (hr0 : Kd.C (Kd.int .i64) w A0 l0.length l0) (hc0 : l0.length ≤ c0) (h : spec_ZeroFind.f k l0 = some (r1, r2)) :
    Calls Try.prog 18 #[.slice A0 l0.length c0] w fun e w' => ∃ v0_ : Value, e = .returned (.tuple #[v0_, .bool r2]) ∧ Kd.R (Kd.int .i64) 3 w' w.heap.size (fun _ => True) v0_ r1 ∧ Below w.heap.size w w' := by
  have HR0 := Aside0.mk hr0; have HC0 := Aside0.mk hc0; clear hr0 hc0; have HB := Aside0.mk (Below.refl w.heap.size w); unfold spec_ZeroFind.f at h; have H := h; clear h; obtain ⟨t502, A2, H⟩ := bnd H
  by_cases c3 : t502 = true
  · subst c3
    replace H := ifT H
    by_cases c4 : (l0.length : Int) = 2
    · rw [if_pos c4] at H
      have c4b0 : ((l0.length : Int) == 2) = true := beq_iff_eq.mpr c4; have c4b1 : ((l0.length : Int) != 2) = false := bne_eq_false_iff_eq.mpr c4; clear c4; obtain ⟨c5, H⟩ := ifN H; have c5b0 : decide (0 < (l0.length : Int)) = true := decide_eq_true c5; have c5b1 : decide (0 < l0.length) = true := decide_eq_true (by omega); clear c5; obtain ⟨⟨t507, t508⟩, A6, H⟩ := bnd H
      replace H : (if 1 < (l0.length : Int) then ((spec_l1Core.f k (rd l0 1)).bind fun bt510 => (if (wrap64 (t507 + bt510.1)) = 0 then ((spec_l5Plain.f k (([bt510.2, t508] : List Int))).bind fun t515 => (some (t515, true))) else (some ((([] : List Int)), false)))) else (none)) = some (r1, r2) := H
      obtain ⟨c7, H⟩ := ifN H; have c7b0 : decide (1 < (l0.length : Int)) = true := decide_eq_true c7; have c7b1 : decide (1 < l0.length) = true := decide_eq_true (by omega); clear c7; obtain ⟨⟨t510, t511⟩, A8, H⟩ := bnd H; replace H : (if (wrap64 (t507 + t510)) = 0 then ((spec_l5Plain.f k (([t511, t508] : List Int))).bind fun t515 => (some (t515, true))) else (some ((([] : List Int)), false))) = some (r1, r2) := H
      by_cases c9 : (wrap64 (t507 + t510)) = 0
      · rw [if_pos c9] at H
        have c9b0 : ((wrap64 (t507 + t510)) == 0) = true := beq_iff_eq.mpr c9; have c9b1 : ((wrap64 (t507 + t510)) != 0) = false := bne_eq_false_iff_eq.mpr c9; clear c9; obtain ⟨y512, hy512⟩ : ∃ y_ : List Int, y_ = (([t511, t508] : List Int)) := ⟨_, rfl⟩; replace H : ((spec_l5Plain.f k y512).bind fun t515 => (some (t515, true))) = some (r1, r2) := rH hy512 H; have Ny512 := Aside0.mk hy512; clear hy512; obtain ⟨t515, A10, H⟩ := bnd H; simp only [Option.some.injEq, Prod.mk.injEq] at H; obtain ⟨rfl, rfl⟩ := H; go_enter Try.func18, Try.ntmps18
        go_wp2_with (first | ((with_reducible refine gate_callee (f := 41) rfl ?_); refine goesK (some 9) Try.func41 #[.slice A0 l0.length c0] ?_; (with_reducible refine (spec_FormValid.calls k _ _ l0 true _ ?side1 ?side2 A2.out).mono ?_); (case side1 => exact U HR0.out); (case side2 => exact HC0.out); rintro e w' ⟨rfl, ⟨nd, rfl⟩⟩; refine ⟨_, rfl, ?_⟩; have p506 : 0 ≤ (0 : Int) := (by omega); have q506 : 0 < (l0.length : Int) := oD; obtain ⟨ad506, e506, hx506_0⟩ := Kd.at_int HR0.out 0 p506 q506; cases e506; have qi506 : (0 < l0.length) = True := eq_true (by omega); (try rw [show ((0 : Int)).toNat = 0 from rfl] at hx506_0); (try rw [Addr.add_zero'] at hx506_0); replace p506 := eq_true p506; replace q506 := eq_true q506) | ((with_reducible refine gate_callee (f := 49) rfl ?_); refine goesK (some 20) Try.func49 #[.int .i64 (rd l0 0)] ?_; (with_reducible refine (spec_l1Core.calls k (rd l0 0) t507 t508 _ A6.out).mono ?_); rintro e w11 ⟨rfl, hb⟩; refine ⟨_, rfl, ?_⟩; replace HB := BS hb; (try clear hb); have p509 : 0 ≤ (1 : Int) := (by omega); have q509 : 1 < (l0.length : Int) := oD; obtain ⟨ad509, e509, hx509_0⟩ := Kd.at_int HR0.out 1 p509 q509; obtain rfl : ad506 = ad509 := (by injection e509); (try simp only [show (1 : Int).toNat = 1 from rfl, Nat.reduceMul, Nat.reduceEqDiff, Go.Addr.add, ↓reduceIte] at hx509_0); have qi509 : (1 < l0.length) = True := eq_true (by omega); (try rw [show ((1 : Int)).toNat = 1 from rfl] at hx509_0); replace hx509_0 := (HB.out.cell (World.block_lt_of_cell? w _ hx509_0)).trans hx509_0; replace p509 := eq_true p509; replace q509 := eq_true q509) | ((with_reducible refine gate_callee (f := 49) rfl ?_); refine goesK (some 27) Try.func49 #[.int .i64 (rd l0 1)] ?_; (with_reducible refine (spec_l1Core.calls k (rd l0 1) t510 t511 _ A8.out).mono ?_); rintro e w12 ⟨rfl, hb⟩; refine ⟨_, rfl, ?_⟩; replace HB := BS hb; (try clear hb)) | ((with_reducible refine gate_dst (N := 36) rfl ?_); refine Kd.R_lit (Kd.int .i64) _ 3 ?hg (N := 36) ?hd (xs := ([t511, t508] : List Int)) (inner := [.int .i64 t511, .int .i64 t508]) (ok := fun _ => True) (okp := fun _ => True) ?hr ?hp (fun _ hk => hk) trivial (Below.refl _ _) (Nat.le_refl _) (by simp) ?_; (case hd => rfl); (case hg => rfl); (case hr => first | (go_simp; done) | (go_simp; rfl)); (case hp => exact (Reps.one (show Kd.M (Kd.int .i64) _ _ _ t511 [.int .i64 t511] from rfl) (Reps.one (show Kd.M (Kd.int .i64) _ _ _ t508 [.int .i64 t508] from rfl) (Reps.none _ _)))); intro v513 w13 ho14 hb hg_ hnew_; clear hg_ hnew_; (first | rw [← Ny512.out] at ho14 | (simp only [Int.reduceToNat] at ho14; rw [← Ny512.out] at ho14)); have HO514 := Aside0.mk (Kd.R_lower ho14 (below_size BU)); replace HB := BS hb; clear hb ho14; obtain ⟨Ao15, co15, eo15⟩ := Kd.R_slice HO514.out; subst eo15) | ((with_reducible refine gate_callee (f := 50) rfl ?_); refine goesK (some 37) Try.func50 #[.slice Ao15 y512.length co15] ?_; (with_reducible refine (spec_l5Plain.calls k _ _ y512 t515 _ ?side1 ?side2 A10.out).mono ?_); (case side1 => exact U ((Kd.R_reads' HO514.out).2.2)); (case side2 => exact (Kd.R_reads' HO514.out).2.1); rintro e w16 ⟨v516, rfl, ho0, hb⟩; refine ⟨_, rfl, ?_⟩; have HO517 := Aside0.mk (Kd.R_lower (Kd.R_new' ho0 (Kd.R_lt (U HO514.out))) (below_size BU)); replace HO514 := Aside0.mk (Kd.R_elder' (U HO514.out) (Kd.R_base ho0) hb); replace HB := BS hb; (try clear hb); (try clear ho0)))
        go_ret2
        exact ⟨_, eR, Kd.RM HO517.out (fun _ hk => trivial), BU⟩
      rw [if_neg c9] at H; have c9b0 : ((wrap64 (t507 + t510)) == 0) = false := beq_eq_false_iff_ne.mpr c9; have c9b1 : ((wrap64 (t507 + t510)) != 0) = true := bne_iff_ne.mpr c9; obtain ⟨y518, hy518⟩ : ∃ y_ : List Int, y_ = (([] : List Int)) := ⟨_, rfl⟩; replace H : (some (y518, false)) = some (r1, r2) := rH hy518 H; have Ny518 := Aside0.mk hy518; clear hy518; simp only [Option.some.injEq, Prod.mk.injEq] at H; obtain ⟨rfl, rfl⟩ := H; go_enter Try.func18, Try.ntmps18
      go_wp2_with (first | ((with_reducible refine gate_callee (f := 41) rfl ?_); refine goesK (some 9) Try.func41 #[.slice A0 l0.length c0] ?_; (with_reducible refine (spec_FormValid.calls k _ _ l0 true _ ?side1 ?side2 A2.out).mono ?_); (case side1 => exact U HR0.out); (case side2 => exact HC0.out); rintro e w' ⟨rfl, ⟨nd, rfl⟩⟩; refine ⟨_, rfl, ?_⟩; have p506 : 0 ≤ (0 : Int) := (by omega); have q506 : 0 < (l0.length : Int) := oD; obtain ⟨ad506, e506, hx506_0⟩ := Kd.at_int HR0.out 0 p506 q506; cases e506; have qi506 : (0 < l0.length) = True := eq_true (by omega); (try rw [show ((0 : Int)).toNat = 0 from rfl] at hx506_0); (try rw [Addr.add_zero'] at hx506_0); replace p506 := eq_true p506; replace q506 := eq_true q506) | ((with_reducible refine gate_callee (f := 49) rfl ?_); refine goesK (some 20) Try.func49 #[.int .i64 (rd l0 0)] ?_; (with_reducible refine (spec_l1Core.calls k (rd l0 0) t507 t508 _ A6.out).mono ?_); rintro e w17 ⟨rfl, hb⟩; refine ⟨_, rfl, ?_⟩; replace HB := BS hb; (try clear hb); have p509 : 0 ≤ (1 : Int) := (by omega); have q509 : 1 < (l0.length : Int) := oD; obtain ⟨ad509, e509, hx509_0⟩ := Kd.at_int HR0.out 1 p509 q509; obtain rfl : ad506 = ad509 := (by injection e509); (try simp only [show (1 : Int).toNat = 1 from rfl, Nat.reduceMul, Nat.reduceEqDiff, Go.Addr.add, ↓reduceIte] at hx509_0); have qi509 : (1 < l0.length) = True := eq_true (by omega); (try rw [show ((1 : Int)).toNat = 1 from rfl] at hx509_0); replace hx509_0 := (HB.out.cell (World.block_lt_of_cell? w _ hx509_0)).trans hx509_0; replace p509 := eq_true p509; replace q509 := eq_true q509) | ((with_reducible refine gate_callee (f := 49) rfl ?_); refine goesK (some 27) Try.func49 #[.int .i64 (rd l0 1)] ?_; (with_reducible refine (spec_l1Core.calls k (rd l0 1) t510 t511 _ A8.out).mono ?_); rintro e w18 ⟨rfl, hb⟩; refine ⟨_, rfl, ?_⟩; replace HB := BS hb; (try clear hb)) | ((with_reducible refine gate_dst (N := 50) rfl ?_); refine Kd.R_lit (Kd.int .i64) _ 3 ?hg (N := 50) ?hd (xs := ([] : List Int)) (inner := []) (ok := fun _ => True) (okp := fun _ => True) ?hr ?hp (fun _ hk => hk) trivial (Below.refl _ _) (Nat.le_refl _) (by simp) ?_; (case hd => rfl); (case hg => rfl); (case hr => first | (go_simp; done) | (go_simp; rfl)); (case hp => exact (Reps.none _ _)); intro v519 w19 ho20 hb hg_ hnew_; clear hg_ hnew_; (first | rw [← Ny518.out] at ho20 | (simp only [Int.reduceToNat] at ho20; rw [← Ny518.out] at ho20)); have HO520 := Aside0.mk (Kd.R_lower ho20 (below_size BU)); replace HB := BS hb; clear hb ho20))
      go_ret2
      exact ⟨_, eR, U HO520.out, BU⟩
    rw [if_neg c4] at H; have c4b0 : ((l0.length : Int) == 2) = false := beq_eq_false_iff_ne.mpr c4; have c4b1 : ((l0.length : Int) != 2) = true := bne_iff_ne.mpr c4
    by_cases c21 : (l0.length : Int) = 3
    · rw [if_pos c21] at H
      have c21b0 : ((l0.length : Int) == 3) = true := beq_iff_eq.mpr c21; have c21b1 : ((l0.length : Int) != 3) = false := bne_eq_false_iff_eq.mpr c21; clear c21; obtain ⟨⟨t521, t522⟩, A22, H⟩ := bnd H; replace H : (some (t521, t522)) = some (r1, r2) := H; simp only [Option.some.injEq, Prod.mk.injEq] at H; obtain ⟨rfl, rfl⟩ := H; go_enter Try.func18, Try.ntmps18
      go_wp2_with (first | ((with_reducible refine gate_callee (f := 41) rfl ?_); refine goesK (some 9) Try.func41 #[.slice A0 l0.length c0] ?_; (with_reducible refine (spec_FormValid.calls k _ _ l0 true _ ?side1 ?side2 A2.out).mono ?_); (case side1 => exact U HR0.out); (case side2 => exact HC0.out); rintro e w' ⟨rfl, ⟨nd, rfl⟩⟩; refine ⟨_, rfl, ?_⟩) | ((with_reducible refine gate_callee (f := 51) rfl ?_); refine goesK (some 41) Try.func51 #[.slice A0 l0.length c0] ?_; (with_reducible refine (spec_l5Three.calls k _ _ l0 t521 t522 _ ?side1 ?side2 A22.out).mono ?_); (case side1 => exact U HR0.out); (case side2 => exact HC0.out); rintro e w23 ⟨v523, rfl, ho0, hb⟩; refine ⟨_, rfl, ?_⟩; have HO524 := Aside0.mk (Kd.R_lower ho0 (below_size BU)); replace HB := BS hb; (try clear hb); (try clear ho0)))
      go_ret2
      exact ⟨_, eR, U HO524.out, BU⟩
    rw [if_neg c21] at H; have c21b0 : ((l0.length : Int) == 3) = false := beq_eq_false_iff_ne.mpr c21; have c21b1 : ((l0.length : Int) != 3) = true := bne_iff_ne.mpr c21
    by_cases c24 : (l0.length : Int) = 4
    · rw [if_pos c24] at H
      have c24b0 : ((l0.length : Int) == 4) = true := beq_iff_eq.mpr c24; have c24b1 : ((l0.length : Int) != 4) = false := bne_eq_false_iff_eq.mpr c24; clear c24; obtain ⟨⟨t525, t526⟩, A25, H⟩ := bnd H; replace H : (some (t525, t526)) = some (r1, r2) := H; simp only [Option.some.injEq, Prod.mk.injEq] at H; obtain ⟨rfl, rfl⟩ := H; go_enter Try.func18, Try.ntmps18
      go_wp2_with (first | ((with_reducible refine gate_callee (f := 41) rfl ?_); refine goesK (some 9) Try.func41 #[.slice A0 l0.length c0] ?_; (with_reducible refine (spec_FormValid.calls k _ _ l0 true _ ?side1 ?side2 A2.out).mono ?_); (case side1 => exact U HR0.out); (case side2 => exact HC0.out); rintro e w' ⟨rfl, ⟨nd, rfl⟩⟩; refine ⟨_, rfl, ?_⟩) | ((with_reducible refine gate_callee (f := 52) rfl ?_); refine goesK (some 47) Try.func52 #[.slice A0 l0.length c0] ?_; (with_reducible refine (spec_l5Four.calls k _ _ l0 t525 t526 _ ?side1 ?side2 A25.out).mono ?_); (case side1 => exact U HR0.out); (case side2 => exact HC0.out); rintro e w26 ⟨v527, rfl, ho0, hb⟩; refine ⟨_, rfl, ?_⟩; have HO528 := Aside0.mk (Kd.R_lower ho0 (below_size BU)); replace HB := BS hb; (try clear hb); (try clear ho0)))
      go_ret2
      exact ⟨_, eR, U HO528.out, BU⟩
    rw [if_neg c24] at H; have c24b0 : ((l0.length : Int) == 4) = false := beq_eq_false_iff_ne.mpr c24; have c24b1 : ((l0.length : Int) != 4) = true := bne_iff_ne.mpr c24; obtain ⟨y529, hy529⟩ : ∃ y_ : List Int, y_ = (([] : List Int)) := ⟨_, rfl⟩; replace H : (some (y529, false)) = some (r1, r2) := rH hy529 H; have Ny529 := Aside0.mk hy529; clear hy529; simp only [Option.some.injEq, Prod.mk.injEq] at H; obtain ⟨rfl, rfl⟩ := H; go_enter Try.func18, Try.ntmps18
    go_wp2_with (first | ((with_reducible refine gate_callee (f := 41) rfl ?_); refine goesK (some 9) Try.func41 #[.slice A0 l0.length c0] ?_; (with_reducible refine (spec_FormValid.calls k _ _ l0 true _ ?side1 ?side2 A2.out).mono ?_); (case side1 => exact U HR0.out); (case side2 => exact HC0.out); rintro e w' ⟨rfl, ⟨nd, rfl⟩⟩; refine ⟨_, rfl, ?_⟩) | ((with_reducible refine gate_dst (N := 50) rfl ?_); refine Kd.R_lit (Kd.int .i64) _ 3 ?hg (N := 50) ?hd (xs := ([] : List Int)) (inner := []) (ok := fun _ => True) (okp := fun _ => True) ?hr ?hp (fun _ hk => hk) trivial (Below.refl _ _) (Nat.le_refl _) (by simp) ?_; (case hd => rfl); (case hg => rfl); (case hr => first | (go_simp; done) | (go_simp; rfl)); (case hp => exact (Reps.none _ _)); intro v530 w27 ho28 hb hg_ hnew_; clear hg_ hnew_; (first | rw [← Ny529.out] at ho28 | (simp only [Int.reduceToNat] at ho28; rw [← Ny529.out] at ho28)); have HO531 := Aside0.mk (Kd.R_lower ho28 (below_size BU)); replace HB := BS hb; clear hb ho28))
    go_ret2
    exact ⟨_, eR, U HO531.out, BU⟩
  replace c3 := Bool.eq_false_iff.mpr c3; subst c3; replace H := ifF H; obtain ⟨y503, hy503⟩ : ∃ y_ : List Int, y_ = (([] : List Int)) := ⟨_, rfl⟩; replace H : (some (y503, false)) = some (r1, r2) := rH hy503 H; have Ny503 := Aside0.mk hy503; clear hy503; simp only [Option.some.injEq, Prod.mk.injEq] at H; obtain ⟨rfl, rfl⟩ := H; go_enter Try.func18, Try.ntmps18
  go_wp2_with (first | ((with_reducible refine gate_callee (f := 41) rfl ?_); refine goesK (some 9) Try.func41 #[.slice A0 l0.length c0] ?_; (with_reducible refine (spec_FormValid.calls k _ _ l0 false _ ?side1 ?side2 A2.out).mono ?_); (case side1 => exact U HR0.out); (case side2 => exact HC0.out); rintro e w' ⟨rfl, ⟨nd, rfl⟩⟩; refine ⟨_, rfl, ?_⟩) | ((with_reducible refine gate_dst (N := 11) rfl ?_); refine Kd.R_lit (Kd.int .i64) _ 3 ?hg (N := 11) ?hd (xs := ([] : List Int)) (inner := []) (ok := fun _ => True) (okp := fun _ => True) ?hr ?hp (fun _ hk => hk) trivial (Below.refl _ _) (Nat.le_refl _) (by simp) ?_; (case hd => rfl); (case hg => rfl); (case hr => first | (go_simp; done) | (go_simp; rfl)); (case hp => exact (Reps.none _ _)); intro v504 w29 ho30 hb hg_ hnew_; clear hg_ hnew_; (first | rw [← Ny503.out] at ho30 | (simp only [Int.reduceToNat] at ho30; rw [← Ny503.out] at ho30)); have HO505 := Aside0.mk (Kd.R_lower ho30 (below_size BU)); replace HB := BS hb; clear hb ho30))
  go_ret2
  exact ⟨_, eR, U HO505.out, BU⟩

/-! ### laws_sameInts: function 19 -/
def laws_sameInts.l0 : Nat → List Int → List Int → Int → Option (Bool)
  | 0, _, _, _ => none
  | k + 1, x0, x1, x5 => if x5 < (x0.length : Int) then (if 0 ≤ x5 then (if x5 < (x1.length : Int) then (if (rd x0 x5) = (rd x1 x5) then (laws_sameInts.l0 k x0 x1 (wrap64 (x5 + 1))) else (some false)) else (none)) else (none)) else (some true)
def laws_sameInts.f (k : Nat) (l0 : List Int) (l1 : List Int) : Option (Bool) := if (l0.length : Int) = (l1.length : Int) then (laws_sameInts.l0 k l0 l1 0) else (some false)
theorem laws_sameInts.mono_l : ∀ k, (∀ y0 y1 y2, LeO (laws_sameInts.l0 k y0 y1 y2) (laws_sameInts.l0 (k + 1) y0 y1 y2))
  | 0 => fun _ _ _ r h => by simp [laws_sameInts.l0] at h
  | k + 1 => by
    have ih0 := laws_sameInts.mono_l k
    · intro y0 y1 y2
      unfold laws_sameInts.l0
      with_reducible repeat' first | exact ih0 _ _ _ | exact LeO.refl _ | exact LeO.none _ | refine LeO.ite ?_ ?_ | refine LeO.bind ?_ (fun _ => ?_)
theorem laws_sameInts.mono : ∀ a0 a1 k, LeO (laws_sameInts.f k a0 a1) (laws_sameInts.f (k + 1) a0 a1) := by
  intro a0 a1 k
  have ih0 := laws_sameInts.mono_l k
  unfold laws_sameInts.f
  with_reducible repeat' first | exact ih0 _ _ _ | exact LeO.refl _ | exact LeO.none _ | refine LeO.ite ?_ ?_ | refine LeO.bind ?_ (fun _ => ?_)
set_option maxHeartbeats 8000000 in
set_option maxRecDepth 100000 in
theorem laws_sameInts.calls (k : Nat) (A0 : Option Addr) (c0 : Nat) (l0 : List Int) (A1 : Option Addr) (c1 : Nat) (l1 : List Int) (r : Bool) (w : World) (hr0 : Kd.C (Kd.int .i64) w A0 l0.length l0) (hc0 : l0.length ≤ c0) (hr1 : Kd.C (Kd.int .i64) w A1 l1.length l1) (hc1 : l1.length ≤ c1) (h : laws_sameInts.f k l0 l1 = some r) :
    Calls Try.prog 19 #[.slice A0 l0.length c0, .slice A1 l1.length c1] w fun e w' => e = .returned (.bool r) ∧ Drawn0 w w' := by
  have HR0 := Aside0.mk hr0; have HC0 := Aside0.mk hc0; clear hr0 hc0; have HR1 := Aside0.mk hr1; have HC1 := Aside0.mk hc1; clear hr1 hc1; unfold laws_sameInts.f at h; have H := h; clear h
  by_cases c3 : (l0.length : Int) = (l1.length : Int)
  · rw [if_pos c3] at H
    have c3b0 : ((l0.length : Int) == (l1.length : Int)) = true := beq_iff_eq.mpr c3; have c3b1 : ((l0.length : Int) != (l1.length : Int)) = false := bne_eq_false_iff_eq.mpr c3
    have c3b2 : (l0.length == l1.length) = true := by first | simpa using c3 | (simp at c3 ⊢; omega)
    clear c3; have H' := Aside0.mk H; clear H; go_enter Try.func19, Try.ntmps19
    go_wp2
    repeat (go_quiet (fail); try go_wp2)
    go_loopg [5] k (fun kq v5 w' => ∃ (x5_1 : Int), v5 = .int .i64 x5_1 ∧ Aside0 (laws_sameInts.l0 kq l0 l1 x5_1 = some r) ∧ Aside0 (kq ≤ k) ∧ Drawn0 w w')
    case atStart => exact ⟨(0), sR, H', ⟨Nat.le_refl _⟩, by repeat (first | exact Drawn0.refl _ | apply Drawn0.step)⟩
    case round =>
      clear H'; (try clear c3); (try clear c3b0); (try clear c3b1); (try clear c3b2); obtain ⟨x5_1, rfl, HA, HK1, ⟨m1, rfl⟩⟩ := hrel; cases gk with
      | zero => exact absurd HA.out (by simp [laws_sameInts.l0])
      | succ k1 =>
        have H := HA.out; clear HA; simp only [laws_sameInts.l0] at H
        by_cases c4 : x5_1 < (l0.length : Int)
        · rw [if_pos c4] at H
          have c4b0 : decide (x5_1 < (l0.length : Int)) = true := decide_eq_true c4; clear c4; obtain ⟨c5, H⟩ := ifN H; have c5b0 : decide (0 ≤ x5_1) = true := decide_eq_true c5; clear c5; obtain ⟨c6, H⟩ := ifN H; have c6b0 : decide (x5_1 < (l1.length : Int)) = true := decide_eq_true c6; clear c6
          by_cases c7 : (rd l0 x5_1) = (rd l1 x5_1)
          · rw [if_pos c7] at H
            have c7b0 : ((rd l0 x5_1) == (rd l1 x5_1)) = true := beq_iff_eq.mpr c7; have c7b1 : ((rd l0 x5_1) != (rd l1 x5_1)) = false := bne_eq_false_iff_eq.mpr c7; clear c7; have H' := Aside0.mk H; clear H; have p532 : 0 ≤ (x5_1 : Int) := oD; have q532 : x5_1 < (l0.length : Int) := oD; obtain ⟨ad532, e532, hx532_0⟩ := Kd.at_int HR0.out x5_1 p532 q532; cases e532; replace p532 := eq_true p532; replace q532 := eq_true q532; have p533 : 0 ≤ (x5_1 : Int) := oD; have q533 : x5_1 < (l1.length : Int) := oD; obtain ⟨ad533, e533, hx533_0⟩ := Kd.at_int HR1.out x5_1 p533 q533; cases e533; replace p533 := eq_true p533; replace q533 := eq_true q533
            go_wp2
            repeat (go_quiet (fail); try go_wp2)
            go_roundg k1
            case measure => have := HK1.out; omega
            case rel => exact ⟨(wrap64 (x5_1 + 1)), sR, H', ⟨by have := HK1.out; omega⟩, by repeat (first | exact Drawn0.refl _ | apply Drawn0.step)⟩
          rw [if_neg c7] at H; have c7b0 : ((rd l0 x5_1) == (rd l1 x5_1)) = false := beq_eq_false_iff_ne.mpr c7; have c7b1 : ((rd l0 x5_1) != (rd l1 x5_1)) = true := bne_iff_ne.mpr c7; obtain rfl := Option.some.inj H; have p532 : 0 ≤ (x5_1 : Int) := oD; have q532 : x5_1 < (l0.length : Int) := oD; obtain ⟨ad532, e532, hx532_0⟩ := Kd.at_int HR0.out x5_1 p532 q532; cases e532; replace p532 := eq_true p532; replace q532 := eq_true q532; have p533 : 0 ≤ (x5_1 : Int) := oD; have q533 : x5_1 < (l1.length : Int) := oD; obtain ⟨ad533, e533, hx533_0⟩ := Kd.at_int HR1.out x5_1 p533 q533; cases e533; replace p533 := eq_true p533; replace q533 := eq_true q533
          go_wp2
          repeat (go_quiet (fail); try go_wp2)
          go_ret
          exact ⟨by first | rfl | (simp; done) | (simp [*]; done), by repeat (first | exact Drawn0.refl _ | apply Drawn0.step)⟩
        rw [if_neg c4] at H; have c4b0 : decide (x5_1 < (l0.length : Int)) = false := decide_eq_false c4; clear c4; obtain rfl := Option.some.inj H
        go_wp2
        repeat (go_quiet (fail); try go_wp2)
        go_ret
        exact ⟨by first | rfl | (simp; done) | (simp [*]; done), by repeat (first | exact Drawn0.refl _ | apply Drawn0.step)⟩
  rw [if_neg c3] at H; have c3b0 : ((l0.length : Int) == (l1.length : Int)) = false := beq_eq_false_iff_ne.mpr c3; have c3b1 : ((l0.length : Int) != (l1.length : Int)) = true := bne_iff_ne.mpr c3
  have c3b2 : (l0.length == l1.length) = false := by first | simpa using c3 | (simp at c3 ⊢; omega)
  obtain rfl := Option.some.inj H; go_enter Try.func19, Try.ntmps19
  go_wp2
  repeat (go_quiet (fail); try go_wp2)
  go_ret
  exact ⟨by first | rfl | (simp; done) | (simp [*]; done), by repeat (first | exact Drawn0.refl _ | apply Drawn0.step)⟩

/-! ### impl_ZeroPlain: function 21 -/
def impl_ZeroPlain.f (k : Nat) (l0 : List Int) (l1 : List Int) : Option (List Int × Bool) := (impl_ZeroIs.f k l0 l1).bind fun t534 => (if t534 = true then ((impl_plain.f k l1).bind fun t535 => (some (t535, true))) else (some (([] : List Int), false)))
theorem impl_ZeroPlain.mono : ∀ a0 a1 k, LeO (impl_ZeroPlain.f k a0 a1) (impl_ZeroPlain.f (k + 1) a0 a1) := by
  intro a0 a1 k
  unfold impl_ZeroPlain.f
  with_reducible repeat' first | exact impl_ZeroIs.mono _ _ _ | exact impl_plain.mono _ _ | exact LeO.refl _ | exact LeO.none _ | refine LeO.ite ?_ ?_ | refine LeO.bind ?_ (fun _ => ?_)
set_option maxHeartbeats 8000000 in
set_option maxRecDepth 100000 in
theorem impl_ZeroPlain.calls (k : Nat) (A0 : Option Addr) (c0 : Nat) (l0 : List Int) (A1 : Option Addr) (c1 : Nat) (l1 : List Int) (r1 : List Int) (r2 : Bool) (w : World) (hr0 : Kd.C (Kd.int .i64) w A0 l0.length l0) (hc0 : l0.length ≤ c0) (hr1 : Kd.C (Kd.int .i64) w A1 l1.length l1) (hc1 : l1.length ≤ c1) (h : impl_ZeroPlain.f k l0 l1 = some (r1, r2)) :
    Calls Try.prog 21 #[.slice A0 l0.length c0, .slice A1 l1.length c1] w fun e w' => ∃ v0_ : Value, e = .returned (.tuple #[v0_, .bool r2]) ∧ Kd.R (Kd.int .i64) 3 w' w.heap.size (fun _ => True) v0_ r1 ∧ Below w.heap.size w w' := by
  have HR0 := Aside0.mk hr0; have HC0 := Aside0.mk hc0; clear hr0 hc0; have HR1 := Aside0.mk hr1; have HC1 := Aside0.mk hc1; clear hr1 hc1; have HB := Aside0.mk (Below.refl w.heap.size w); unfold impl_ZeroPlain.f at h; have H := h; clear h; obtain ⟨t534, A3, H⟩ := bnd H
  by_cases c4 : t534 = true
  · subst c4
    replace H := ifT H; obtain ⟨t535, A5, H⟩ := bnd H; simp only [Option.some.injEq, Prod.mk.injEq] at H; obtain ⟨rfl, rfl⟩ := H; go_enter Try.func21, Try.ntmps21
    go_wp2_with (first | ((with_reducible refine gate_callee (f := 7) rfl ?_); refine goesK (some 8) Try.func7 #[.slice A0 l0.length c0, .slice A1 l1.length c1] ?_; (with_reducible refine (impl_ZeroIs.calls k _ _ l0 _ _ l1 true _ ?side1 ?side2 ?side3 ?side4 A3.out).mono ?_); (case side1 => exact U HR0.out); (case side2 => exact HC0.out); (case side3 => exact U HR1.out); (case side4 => exact HC1.out); rintro e w6 ⟨rfl, hb⟩; refine ⟨_, rfl, ?_⟩; replace HB := BS hb; (try clear hb)) | ((with_reducible refine gate_callee (f := 40) rfl ?_); refine goesK (some 11) Try.func40 #[.slice A1 l1.length c1] ?_; (with_reducible refine (impl_plain.calls k _ _ l1 t535 _ ?side1 ?side2 A5.out).mono ?_); (case side1 => exact U (Kd.C_below HR1.out HB.out)); (case side2 => exact HC1.out); rintro e w7 ⟨v536, rfl, ho0, hb⟩; refine ⟨_, rfl, ?_⟩; have HO537 := Aside0.mk (Kd.R_lower ho0 (below_size BU)); replace HB := BS hb; (try clear hb); (try clear ho0)))
    go_ret2
    exact ⟨_, eR, U HO537.out, BU⟩
  replace c4 := Bool.eq_false_iff.mpr c4; subst c4; replace H := ifF H; simp only [Option.some.injEq, Prod.mk.injEq] at H; obtain ⟨rfl, rfl⟩ := H; go_enter Try.func21, Try.ntmps21
  go_wp2_with (first | ((with_reducible refine gate_callee (f := 7) rfl ?_); refine goesK (some 8) Try.func7 #[.slice A0 l0.length c0, .slice A1 l1.length c1] ?_; (with_reducible refine (impl_ZeroIs.calls k _ _ l0 _ _ l1 false _ ?side1 ?side2 ?side3 ?side4 A3.out).mono ?_); (case side1 => exact U HR0.out); (case side2 => exact HC0.out); (case side3 => exact U HR1.out); (case side4 => exact HC1.out); rintro e w8 ⟨rfl, hb⟩; refine ⟨_, rfl, ?_⟩; replace HB := BS hb; (try clear hb)))
  go_ret2
  exact ⟨_, eR, by first | exact Kd.R_nil _ _ _ _ _ | exact Kd.N_nil _ _ _ _ _ | exact Kd.V_nil _ _ _ _ _ | exact Kd.Q_nil _ _ _ _ _ | exact Kd.S_nil _ _ _ _ _, BU⟩

/-! ### laws_FnFindZero: function 5 -/
mutual
def laws_FnFindZero.j0 : Nat → List Int → List Int → Bool → Bool → Option (Bool)
  | 0, _, _, _, _ => none
  | k + 1, x3, x4, x5, x34 => if x34 = true then (none) else ((impl_FormValid.f k x3).bind fun t550 => (if t550 = true then ((impl_FormBad.f k x3).bind fun t551 => (if (x3.length : Int) < 4 then (laws_FnFindZero.j1 k x3 x4 x5 (t551.length : Int) (x5 != ((t551.length : Int) == 0))) else (laws_FnFindZero.j1 k x3 x4 x5 (t551.length : Int) false))) else (some (!x5))))
def laws_FnFindZero.j1 : Nat → List Int → List Int → Bool → Int → Bool → Option (Bool)
  | 0, _, _, _, _, _ => none
  | k + 1, x3, x4, x5, x8, x51 => if x51 = true then (none) else (if x5 = true then ((impl_ZeroPlain.f k x3 x4).bind fun bt554 => (if bt554.2 = true then ((laws_sameInts.f k bt554.1 x4).bind fun t558 => (if t558 = true then ((impl_ZeroIs.f k x3 x4).bind fun t559 => (if t559 = true then (some (x8 == 0)) else (none))) else (none))) else (none))) else (some true))
end
def laws_FnFindZero.f (k : Nat) (l0 : List Int) : Option (Bool) := if (l0.length : Int) > 1048576 then (some true) else ((spec_DrawZeroFind.f k l0).bind fun t538 => ((impl_ZeroFind.f k t538).bind fun bt541 => ((spec_ZeroFind.f k t538).bind fun bt545 => (if (bt541.2 != bt545.2) = true then (laws_FnFindZero.j0 k t538 bt541.1 bt541.2 true) else ((laws_sameInts.f k bt541.1 bt545.1).bind fun t549 => (laws_FnFindZero.j0 k t538 bt541.1 bt541.2 (!t549)))))))
theorem laws_FnFindZero.mono_l : ∀ k, (∀ y0 y1 y2 y3, LeO (laws_FnFindZero.j0 k y0 y1 y2 y3) (laws_FnFindZero.j0 (k + 1) y0 y1 y2 y3)) ∧ (∀ y0 y1 y2 y3 y4, LeO (laws_FnFindZero.j1 k y0 y1 y2 y3 y4) (laws_FnFindZero.j1 (k + 1) y0 y1 y2 y3 y4))
  | 0 => ⟨fun _ _ _ _ r h => by simp [laws_FnFindZero.j0] at h, fun _ _ _ _ _ r h => by simp [laws_FnFindZero.j1] at h⟩
  | k + 1 => by
    obtain ⟨ih0, ih1⟩ := laws_FnFindZero.mono_l k
    refine ⟨?_, ?_⟩ <;> intros <;> (first | unfold laws_FnFindZero.j0 | unfold laws_FnFindZero.j1) <;> (with_reducible repeat' first | exact ih0 _ _ _ _ | exact ih1 _ _ _ _ _ | exact impl_FormBad.mono _ _ | exact impl_FormValid.mono _ _ | exact impl_ZeroFind.mono _ _ | exact impl_ZeroIs.mono _ _ _ | exact impl_ZeroPlain.mono _ _ _ | exact laws_sameInts.mono _ _ _ | exact spec_DrawZeroFind.mono _ _ | exact spec_ZeroFind.mono _ _ | exact LeO.refl _ | exact LeO.none _ | refine LeO.ite ?_ ?_ | refine LeO.bind ?_ (fun _ => ?_))
theorem laws_FnFindZero.mono : ∀ a0 k, LeO (laws_FnFindZero.f k a0) (laws_FnFindZero.f (k + 1) a0) := by
  intro a0 k
  obtain ⟨ih0, ih1⟩ := laws_FnFindZero.mono_l k
  unfold laws_FnFindZero.f
  with_reducible repeat' first | exact ih0 _ _ _ _ | exact ih1 _ _ _ _ _ | exact impl_FormBad.mono _ _ | exact impl_FormValid.mono _ _ | exact impl_ZeroFind.mono _ _ | exact impl_ZeroIs.mono _ _ _ | exact impl_ZeroPlain.mono _ _ _ | exact laws_sameInts.mono _ _ _ | exact spec_DrawZeroFind.mono _ _ | exact spec_ZeroFind.mono _ _ | exact LeO.refl _ | exact LeO.none _ | refine LeO.ite ?_ ?_ | refine LeO.bind ?_ (fun _ => ?_)
set_option maxHeartbeats 8000000 in
set_option maxRecDepth 100000 in
theorem laws_FnFindZero.calls (k : Nat) (A0 : Option Addr) (c0 : Nat) (l0 : List Int) (r : Bool) (w : World) (hr0 : Kd.C (Kd.int .u8) w A0 l0.length l0) (hc0 : l0.length ≤ c0) (h : laws_FnFindZero.f k l0 = some r) :
    Calls Try.prog 5 #[.slice A0 l0.length c0] w fun e w' => e = .returned (.bool r) ∧ Below w.heap.size w w' := by
  have HR0 := Aside0.mk hr0; have HC0 := Aside0.mk hc0; clear hr0 hc0; have HB := Aside0.mk (Below.refl w.heap.size w); unfold laws_FnFindZero.f at h; have H := h; clear h
  by_cases c2 : (l0.length : Int) > 1048576
  · rw [if_pos c2] at H
    have c2b0 : decide (1048576 < (l0.length : Int)) = true := decide_eq_true c2; have c2b1 : decide (1048576 < l0.length) = true := decide_eq_true (by omega); clear c2; obtain rfl := Option.some.inj H; go_enter Try.func5, Try.ntmps5
    go_wp2
    go_ret
    exact ⟨eR, BU⟩
  · rw [if_neg c2] at H
    have c2b0 : decide (1048576 < (l0.length : Int)) = false := decide_eq_false c2; have c2b1 : decide (1048576 < l0.length) = false := decide_eq_false (by omega); clear c2; obtain ⟨t538, A3, H⟩ := bnd H; obtain ⟨⟨t541, t542⟩, A4, H⟩ := bnd H
    replace H : ((spec_ZeroFind.f k t538).bind fun bt545 => (if (t542 != bt545.2) = true then (laws_FnFindZero.j0 k t538 t541 t542 true) else ((laws_sameInts.f k t541 bt545.1).bind fun t549 => (laws_FnFindZero.j0 k t538 t541 t542 (!t549))))) = some r := H
    obtain ⟨⟨t545, t546⟩, A5, H⟩ := bnd H; replace H : (if (t542 != t546) = true then (laws_FnFindZero.j0 k t538 t541 t542 true) else ((laws_sameInts.f k t541 t545).bind fun t549 => (laws_FnFindZero.j0 k t538 t541 t542 (!t549)))) = some r := H; have HC6 := Aside0.mk H; clear H; go_enter Try.func5, Try.ntmps5
    go_upto_region 6 with (first | ((with_reducible refine gate_callee (f := 17) rfl ?_); refine goesK (some 15) Try.func17 #[.slice A0 l0.length c0] ?_; (with_reducible refine (spec_DrawZeroFind.calls k _ _ l0 t538 _ ?side1 ?side2 A3.out).mono ?_); (case side1 => exact U HR0.out); (case side2 => exact HC0.out); rintro e w7 ⟨v539, rfl, ho0, hb⟩; refine ⟨_, rfl, ?_⟩; have HO540 := Aside0.mk (Kd.R_lower ho0 (below_size BU)); replace HB := BS hb; (try clear hb); (try clear ho0); obtain ⟨Ao8, co8, eo8⟩ := Kd.R_slice HO540.out; subst eo8) | ((with_reducible refine gate_callee (f := 15) rfl ?_); refine goesK (some 18) Try.func15 #[.slice Ao8 t538.length co8] ?_; (with_reducible refine (impl_ZeroFind.calls k _ _ t538 t541 t542 _ ?side1 ?side2 A4.out).mono ?_); (case side1 => exact U ((Kd.R_reads' HO540.out).2.2)); (case side2 => exact (Kd.R_reads' HO540.out).2.1); rintro e w9 ⟨v543, rfl, ho0, hb⟩; refine ⟨_, rfl, ?_⟩; have HO544 := Aside0.mk (Kd.R_lower (Kd.R_new' ho0 (Kd.R_lt (U HO540.out))) (below_size BU)); replace HO540 := Aside0.mk (Kd.R_elder' (U HO540.out) (Kd.R_base ho0) hb); replace HB := BS hb; (try clear hb); (try clear ho0)) | ((with_reducible refine gate_callee (f := 18) rfl ?_); refine goesK (some 23) Try.func18 #[.slice Ao8 t538.length co8] ?_; (with_reducible refine (spec_ZeroFind.calls k _ _ t538 t545 t546 _ ?side1 ?side2 A5.out).mono ?_); (case side1 => exact U ((Kd.R_reads' HO540.out).2.2)); (case side2 => exact (Kd.R_reads' HO540.out).2.1); rintro e w10 ⟨v547, rfl, ho0, hb⟩; refine ⟨_, rfl, ?_⟩; have HO548 := Aside0.mk (Kd.R_lower (Kd.R_new' (Kd.R_new' ho0 (Kd.R_lt (U HO540.out))) (Kd.R_lt (U HO544.out))) (below_size BU)); replace HO540 := Aside0.mk (Kd.R_elder' (U HO540.out) (Kd.R_base ho0) hb); replace HO544 := Aside0.mk (Kd.R_elder' (U HO544.out) (Kd.R_base ho0) hb); replace HB := BS hb; (try clear hb); (try clear ho0)))
    (try simp only [Act.put, List.setIfInBounds_toArray, List.set_cons_zero, List.set_cons_succ])
    go_cut [34] (fun v34 wc => ∃ (kq : Nat) (x34_5 : Bool), v34 = .bool x34_5 ∧ Aside0 (laws_FnFindZero.j0 kq t538 t541 t542 x34_5 = some r) ∧ Aside0 (kq ≤ k) ∧ Aside0 (Kd.R (Kd.int .i64) 3 wc w.heap.size (fun k_ => some k_ ≠ (v543 : Value).ownBlock) (.slice Ao8 t538.length co8) t538) ∧ Aside0 (Kd.R (Kd.int .i64) 3 wc w.heap.size (fun k_ => some k_ ≠ ((.slice Ao8 t538.length co8) : Value).ownBlock) v543 t541) ∧ Aside0 (Below w.heap.size w wc))
    case first =>
      have H := HC6.out; clear HC6
      by_cases c11 : (t542 != t546) = true
      · rw [if_pos c11] at H
        have c11b0 : (t542 != t546) = true := c11
        (try (have c11b1 : decide (t542 = t546) = false := by simpa using c11))
        (try (have c11b2 : (t542 == t546) = false := by simpa using c11))
        (try (have c11b3 : ¬ (t542 = t546) := by simpa using c11))
        clear c11
        (first | rw [c11b0] | (simp only [i64_w, i32_w]; rw [c11b0]) | skip)
        have H' := Aside0.mk H; clear H
        go_wp2
        go_meet
        case rel => exact ⟨_, (true), sR, H', ⟨oR⟩, ⟨Kd.RM HO540.out (fun _ hk => hk.1.2)⟩, ⟨Kd.RM HO544.out (fun _ hk => hk.1.2)⟩, ⟨BU⟩⟩
      · rw [if_neg c11] at H
        have c11b0 : (t542 != t546) = false := by simpa using c11
        (try (have c11b1 : decide (t542 = t546) = true := by simpa using c11))
        (try (have c11b2 : (t542 == t546) = true := by simpa using c11))
        clear c11
        (first | rw [c11b0] | (simp only [i64_w, i32_w]; rw [c11b0]) | skip)
        obtain ⟨t549, A12, H⟩ := bnd H; have H' := Aside0.mk H; clear H; obtain ⟨Ao13, co13, eo13⟩ := Kd.R_slice HO544.out; subst eo13; obtain ⟨Ao14, co14, eo14⟩ := Kd.R_slice HO548.out; subst eo14
        go_wp2_with (first | (go_at_call 19; (with_reducible refine (laws_sameInts.calls k _ _ t541 _ _ t545 t549 _ ?side1 ?side2 ?side3 ?side4 A12.out).mono ?_); (case side1 => exact U ((Kd.R_reads' HO544.out).2.2)); (case side2 => exact (Kd.R_reads' HO544.out).2.1); (case side3 => exact U ((Kd.R_reads' HO548.out).2.2)); (case side4 => exact (Kd.R_reads' HO548.out).2.1); rintro e w' ⟨rfl, ⟨nd, rfl⟩⟩))
        go_meet
        case rel => exact ⟨_, (!t549), sR, H', ⟨oR⟩, ⟨Kd.RM HO540.out (fun _ hk => hk.1.2)⟩, ⟨Kd.RM HO544.out (fun _ hk => hk.1.2)⟩, ⟨BU⟩⟩
    case rest =>
      clear HC6; (try clear c2); (try clear c2b0); (try clear c2b1); obtain ⟨kq, x34_5, rfl, HA, HJ5, HO_3, HO_4, HB⟩ := hcut; cases kq with
      | zero => exact absurd HA.out (by simp [laws_FnFindZero.j0])
      | succ kj5 =>
        have H := HA.out; clear HA; simp only [laws_FnFindZero.j0] at H
        by_cases c15 : x34_5 = true
        · subst c15
          replace H := ifT H
          exact absurd H (by simp)
        · replace c15 := Bool.eq_false_iff.mpr c15
          subst c15; replace H := ifF H; obtain ⟨t550, A16, H⟩ := bnd H
          by_cases c17 : t550 = true
          · subst c17
            replace H := ifT H; obtain ⟨t551, A18, H⟩ := bnd H; have HC19 := Aside0.mk H; clear H
            go_upto_region 11 with (first | ((with_reducible refine gate_callee (f := 20) rfl ?_); refine goesK (some 36) Try.func20 #[.slice Ao8 t538.length co8] ?_; (with_reducible refine (impl_FormValid.calls kj5 _ _ t538 true _ ?side1 ?side2 A16.out).mono ?_); (case side1 => exact U ((Kd.R_reads' HO_3.out).2.2)); (case side2 => exact (Kd.R_reads' HO_3.out).2.1); rintro e w20 ⟨rfl, hb⟩; refine ⟨_, rfl, ?_⟩; replace HO_3 := Aside0.mk (Kd.R_below (U HO_3.out) hb); replace HO_4 := Aside0.mk (Kd.R_below (U HO_4.out) hb); replace HB := BS hb; (try clear hb)) | ((with_reducible refine gate_callee (f := 9) rfl ?_); refine goesK (some 41) Try.func9 #[.slice Ao8 t538.length co8] ?_; (with_reducible refine (impl_FormBad.calls kj5 _ _ t538 t551 _ ?side1 ?side2 A18.out).mono ?_); (case side1 => exact U ((Kd.R_reads' HO_3.out).2.2)); (case side2 => exact (Kd.R_reads' HO_3.out).2.1); rintro e w21 ⟨v552, rfl, ho0, hb⟩; refine ⟨_, rfl, ?_⟩; have HO553 := Aside0.mk (Kd.R_lower (Kd.R_new' (Kd.R_new' ho0 (Kd.R_lt (U HO_3.out))) (Kd.R_lt (U HO_4.out))) (below_size BU)); replace HO_3 := Aside0.mk (Kd.R_elder' (U HO_3.out) (Kd.R_base ho0) hb); replace HO_4 := Aside0.mk (Kd.R_elder' (U HO_4.out) (Kd.R_base ho0) hb); replace HB := BS hb; (try clear hb); (try clear ho0); obtain ⟨Ao22, co22, eo22⟩ := Kd.R_slice HO553.out; subst eo22))
            (try simp only [Act.put, List.setIfInBounds_toArray, List.set_cons_zero, List.set_cons_succ])
            go_cut [51] (fun v51 wc => ∃ (kq : Nat) (x51_18 : Bool), v51 = .bool x51_18 ∧ Aside0 (laws_FnFindZero.j1 kq t538 t541 t542 (t551.length : Int) x51_18 = some r) ∧ Aside0 (kq ≤ kj5) ∧ Aside0 (Kd.R (Kd.int .i64) 3 wc w.heap.size (fun k_ => some k_ ≠ (v543 : Value).ownBlock) (.slice Ao8 t538.length co8) t538) ∧ Aside0 (Kd.R (Kd.int .i64) 3 wc w.heap.size (fun k_ => some k_ ≠ ((.slice Ao8 t538.length co8) : Value).ownBlock) v543 t541) ∧ Aside0 (Below w.heap.size w wc))
            case first =>
              have H := HC19.out; clear HC19
              by_cases c23 : (t538.length : Int) < 4
              · rw [if_pos c23] at H
                have c23b0 : decide ((t538.length : Int) < 4) = true := decide_eq_true c23; have c23b1 : decide (t538.length < 4) = true := decide_eq_true (by omega); clear c23
                (first | rw [c23b0] | (simp only [i64_w, i32_w]; rw [c23b0]) | skip)
                have H' := Aside0.mk H; clear H
                go_wp2
                go_meet
                case rel => exact ⟨_, ((t542 != ((t551.length : Int) == 0))), sR, H', ⟨by have := HJ5.out; first | omega | exact Nat.le_refl _⟩, ⟨Kd.RM HO_3.out (fun _ hk => hk.1)⟩, ⟨Kd.RM HO_4.out (fun _ hk => hk.1)⟩, ⟨BU⟩⟩
              · rw [if_neg c23] at H
                have c23b0 : decide ((t538.length : Int) < 4) = false := decide_eq_false c23; have c23b1 : decide (t538.length < 4) = false := decide_eq_false (by omega); clear c23
                (first | rw [c23b0] | (simp only [i64_w, i32_w]; rw [c23b0]) | skip)
                have H' := Aside0.mk H; clear H
                go_wp2
                go_meet
                case rel => exact ⟨_, (false), sR, H', ⟨by have := HJ5.out; first | omega | exact Nat.le_refl _⟩, ⟨Kd.RM HO_3.out (fun _ hk => hk.1)⟩, ⟨Kd.RM HO_4.out (fun _ hk => hk.1)⟩, ⟨BU⟩⟩
            case rest =>
              clear HC19; (try clear c2); (try clear c2b0); (try clear c2b1); (try clear c15); (try clear c17); obtain ⟨kq, x51_18, rfl, HA, HJ18, HO_3, HO_4, HB⟩ := hcut; cases kq with
              | zero => exact absurd HA.out (by simp [laws_FnFindZero.j1])
              | succ kj18 =>
                have H := HA.out; clear HA; simp only [laws_FnFindZero.j1] at H
                by_cases c24 : x51_18 = true
                · subst c24
                  replace H := ifT H
                  exact absurd H (by simp)
                · replace c24 := Bool.eq_false_iff.mpr c24
                  subst c24; replace H := ifF H
                  by_cases c25 : t542 = true
                  · subst c25
                    replace H := ifT H; obtain ⟨⟨t554, t555⟩, A26, H⟩ := bnd H
                    replace H : (if t555 = true then ((laws_sameInts.f kj18 t554 t541).bind fun t558 => (if t558 = true then ((impl_ZeroIs.f kj18 t538 t541).bind fun t559 => (if t559 = true then (some ((t551.length : Int) == 0)) else (none))) else (none))) else (none)) = some r := H
                    by_cases c27 : t555 = true
                    · subst c27
                      replace H := ifT H; obtain ⟨t558, A28, H⟩ := bnd H
                      by_cases c29 : t558 = true
                      · subst c29
                        replace H := ifT H; obtain ⟨t559, A30, H⟩ := bnd H
                        by_cases c31 : t559 = true
                        · subst c31
                          replace H := ifT H; obtain rfl := Option.some.inj H; obtain ⟨Ao32, co32, eo32⟩ := Kd.R_slice HO_4.out; subst eo32
                          go_wp2_with (first | ((with_reducible refine gate_callee (f := 21) rfl ?_); refine goesK (some 57) Try.func21 #[.slice Ao8 t538.length co8, .slice Ao32 t541.length co32] ?_; (with_reducible refine (impl_ZeroPlain.calls kj18 _ _ t538 _ _ t541 t554 true _ ?side1 ?side2 ?side3 ?side4 A26.out).mono ?_); (case side1 => exact U ((Kd.R_reads' HO_3.out).2.2)); (case side2 => exact (Kd.R_reads' HO_3.out).2.1); (case side3 => exact U ((Kd.R_reads' HO_4.out).2.2)); (case side4 => exact (Kd.R_reads' HO_4.out).2.1); rintro e w33 ⟨v556, rfl, ho0, hb⟩; refine ⟨_, rfl, ?_⟩; have HO557 := Aside0.mk (Kd.R_lower (Kd.R_new' (Kd.R_new' ho0 (Kd.R_lt (U HO_3.out))) (Kd.R_lt (U HO_4.out))) (below_size BU)); replace HO_3 := Aside0.mk (Kd.R_elder' (U HO_3.out) (Kd.R_base ho0) hb); replace HO_4 := Aside0.mk (Kd.R_elder' (U HO_4.out) (Kd.R_base ho0) hb); replace HB := BS hb; (try clear hb); (try clear ho0); obtain ⟨Ao34, co34, eo34⟩ := Kd.R_slice HO557.out; subst eo34) | (go_at_call 19; (with_reducible refine (laws_sameInts.calls kj18 _ _ t554 _ _ t541 true _ ?side1 ?side2 ?side3 ?side4 A28.out).mono ?_); (case side1 => exact U ((Kd.R_reads' HO557.out).2.2)); (case side2 => exact (Kd.R_reads' HO557.out).2.1); (case side3 => exact U ((Kd.R_reads' HO_4.out).2.2)); (case side4 => exact (Kd.R_reads' HO_4.out).2.1); rintro e w' ⟨rfl, ⟨nd, rfl⟩⟩) | (go_at_call 7; (with_reducible refine (impl_ZeroIs.calls kj18 _ _ t538 _ _ t541 true _ ?side1 ?side2 ?side3 ?side4 A30.out).mono ?_); (case side1 => exact U ((Kd.R_reads' HO_3.out).2.2)); (case side2 => exact (Kd.R_reads' HO_3.out).2.1); (case side3 => exact U ((Kd.R_reads' HO_4.out).2.2)); (case side4 => exact (Kd.R_reads' HO_4.out).2.1); rintro e w35 ⟨rfl, hb⟩; replace HO_3 := Aside0.mk (Kd.R_below (U HO_3.out) hb); replace HO_4 := Aside0.mk (Kd.R_below (U HO_4.out) hb); replace HO557 := Aside0.mk (Kd.R_below (U HO557.out) hb); replace HB := BS hb; (try clear hb)))
                          go_ret
                          exact ⟨eR, BU⟩
                        · replace c31 := Bool.eq_false_iff.mpr c31
                          subst c31; replace H := ifF H
                          exact absurd H (by simp)
                      · replace c29 := Bool.eq_false_iff.mpr c29
                        subst c29; replace H := ifF H
                        exact absurd H (by simp)
                    · replace c27 := Bool.eq_false_iff.mpr c27
                      subst c27; replace H := ifF H
                      exact absurd H (by simp)
                  · replace c25 := Bool.eq_false_iff.mpr c25
                    subst c25; replace H := ifF H; obtain rfl := Option.some.inj H
                    go_wp2
                    go_ret
                    exact ⟨eR, BU⟩
          · replace c17 := Bool.eq_false_iff.mpr c17
            subst c17; replace H := ifF H; obtain rfl := Option.some.inj H
            go_wp2_with (first | ((with_reducible refine gate_callee (f := 20) rfl ?_); refine goesK (some 36) Try.func20 #[.slice Ao8 t538.length co8] ?_; (with_reducible refine (impl_FormValid.calls kj5 _ _ t538 false _ ?side1 ?side2 A16.out).mono ?_); (case side1 => exact U ((Kd.R_reads' HO_3.out).2.2)); (case side2 => exact (Kd.R_reads' HO_3.out).2.1); rintro e w36 ⟨rfl, hb⟩; refine ⟨_, rfl, ?_⟩; replace HO_3 := Aside0.mk (Kd.R_below (U HO_3.out) hb); replace HO_4 := Aside0.mk (Kd.R_below (U HO_4.out) hb); replace HB := BS hb; (try clear hb)))
            go_ret
            exact ⟨eR, BU⟩

/-- THE ONE PURE STATEMENT of laws_FnFindZero: yours. -/
def laws_FnFindZero.Pure : Prop := ∀ (l0 : List Int), l0.length ≤ maxLen → l0.length * 1 ≤ 140737488351232 → (∀ x ∈ l0, (Lit.int .u8 x).wf = true) → ∃ k, laws_FnFindZero.f k l0 = some true
theorem laws_FnFindZero.walk (P : laws_FnFindZero.Pure) (a0 : Option Addr) (len0 cap0 : Nat) (z0 : List Int) (w : World) (w0 : (a0 = none ∧ len0 = 0 ∧ cap0 = 0 ∧ z0 = []) ∨ ∃ x, a0 = some x ∧ len0 ≤ cap0 ∧ cap0 ≤ maxLen ∧ z0.length = cap0 ∧ (∀ i, i < z0.length → w.cell? (x.add i) = some (.int .u8 (z0.getD i 0))) ∧ ∀ n ∈ z0, (Lit.int .u8 n).wf = true) (y0 : len0 * 1 ≤ 140737488351232) :
    Calls Try.prog 5 #[.slice a0 len0 cap0] w fun e w' => e = .returned (.bool true) ∧ Below w.heap.size w w' := by
  obtain ⟨l0, rfl, hr0, hm0, hw0, hc0⟩ := ReadsInt.ofRowC w0
  obtain ⟨k, h⟩ := P l0 hm0 y0 hw0
  refine (laws_FnFindZero.calls k _ _ l0 true w (Kd.C_of_reads (d := (0 : Int)) (h1 := fun _ => rfl) hr0) hc0 h).mono ?_
  rintro e w' ⟨rfl, hd⟩
  exact ⟨rfl, hd⟩

end Go.Proofs.Ytpjgcjkodmkemaa.PFnFindZero
