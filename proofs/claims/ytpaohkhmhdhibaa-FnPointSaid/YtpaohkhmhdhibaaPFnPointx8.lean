-- Written by a program of this session (wip/print2.py): the functions that the law reaches, plain, and the walks.
import Derived.Test.YtpaohkhmhdhibaaPFnPointx0
import Derived.Test.YtpaohkhmhdhibaaPFnPointx1
import Derived.Test.YtpaohkhmhdhibaaPFnPointx2
import Derived.Test.YtpaohkhmhdhibaaPFnPointx3
import Derived.Test.YtpaohkhmhdhibaaPFnPointx6
import Derived.Test.YtpaohkhmhdhibaaPFnPointx7
namespace Go.Proofs.Ytpaohkhmhdhibaa.PFnPoint
open Go.RowKit Go.Proofs.YtpaohkhmhdhibaaW.PrintWords Go.Proofs.YtpaohkhmhdhibaaW.PrintLast Go.Proofs.YtpaohkhmhdhibaaW.PrintMore
attribute [local go_sem] max2_int min2_int max_two min_two max_three min_three max_four min_four   -- for this text's walks alone
set_option linter.unusedVariables false
set_option linter.unusedSimpArgs false

/-! ### spec_ZeroFind: function 59 -/
def spec_ZeroFind.f (k : Nat) (l0 : List Int) : Option (List Int × Bool) := (spec_FormValid.f k l0).bind fun t301 => (if t301 = true then (if (l0.length : Int) = 2 then (if 0 < (l0.length : Int) then ((spec_l1Core.f k (rd l0 0)).bind fun bt306 => (if 1 < (l0.length : Int) then ((spec_l1Core.f k (rd l0 1)).bind fun bt309 => (if (wrap64 (bt306.1 + bt309.1)) = 0 then ((spec_l5Plain.f k (([bt309.2, bt306.2] : List Int))).bind fun t314 => (some (t314, true))) else (some ((([] : List Int)), false)))) else (none))) else (none)) else (if (l0.length : Int) = 3 then ((spec_l5Three.f k l0).bind fun bt320 => (some (bt320.1, bt320.2))) else (if (l0.length : Int) = 4 then ((spec_l5Four.f k l0).bind fun bt324 => (some (bt324.1, bt324.2))) else (some ((([] : List Int)), false))))) else (some ((([] : List Int)), false)))
theorem spec_ZeroFind.mono : ∀ a0 k, LeO (spec_ZeroFind.f k a0) (spec_ZeroFind.f (k + 1) a0) := by
  intro a0 k
  unfold spec_ZeroFind.f
  repeat' first
      | (with_reducible exact spec_FormValid.mono _ _)
      | (with_reducible exact spec_l1Core.mono _ _)
      | (with_reducible exact spec_l5Four.mono _ _)
      | (with_reducible exact spec_l5Plain.mono _ _)
      | (with_reducible exact spec_l5Three.mono _ _)
      | (with_reducible exact LeO.refl _)
      | (with_reducible exact LeO.none _)
      | (with_reducible refine LeO.ite ?_ ?_)
      | (with_reducible refine LeO.bind ?_ (fun _ => ?_))
      | exact spec_FormValid.mono _ _
      | exact spec_l1Core.mono _ _
      | exact spec_l5Four.mono _ _
      | exact spec_l5Plain.mono _ _
      | exact spec_l5Three.mono _ _
      | exact LeO.none _
      | refine LeO.ite ?_ ?_
      | refine LeO.bind ?_ (fun _ => ?_)
set_option maxHeartbeats 8000000 in
set_option maxRecDepth 100000 in
theorem spec_ZeroFind.calls (k : Nat) (A0 : Option Addr) (c0 : Nat) (l0 : List Int) (r1 : List Int) (r2 : Bool) (w : World) (hr0 : Kd.C (Kd.int .i64) w A0 l0.length l0) (hc0 : l0.length ≤ c0) (h : spec_ZeroFind.f k l0 = some (r1, r2)) :
    Calls Try.prog 59 #[.slice A0 l0.length c0] w fun e w' => ∃ v0_ : Value, e = .returned (.tuple #[v0_, .bool r2]) ∧ Kd.R (Kd.int .i64) 3 w' w.heap.size (fun _ => True) v0_ r1 ∧ Below w.heap.size w w' := by
  have HR0 := Aside0.mk hr0; have HC0 := Aside0.mk hc0; clear hr0 hc0; have HB := Aside0.mk (Below.refl w.heap.size w); unfold spec_ZeroFind.f at h; have H := h; clear h; obtain ⟨t301, A2, H⟩ := bnd H
  by_cases c3 : t301 = true
  · subst c3
    replace H := ifT H
    by_cases c4 : (l0.length : Int) = 2
    · rw [if_pos c4] at H
      have c4b0 : ((l0.length : Int) == 2) = true := beq_iff_eq.mpr c4; have c4b1 : ((l0.length : Int) != 2) = false := bne_eq_false_iff_eq.mpr c4; clear c4; obtain ⟨c5, H⟩ := ifN H; have c5b0 : decide (0 < (l0.length : Int)) = true := decide_eq_true c5; have c5b1 : decide (0 < l0.length) = true := decide_eq_true (by omega); clear c5; obtain ⟨⟨t306, t307⟩, A6, H⟩ := bnd H
      replace H : (if 1 < (l0.length : Int) then ((spec_l1Core.f k (rd l0 1)).bind fun bt309 => (if (wrap64 (t306 + bt309.1)) = 0 then ((spec_l5Plain.f k (([bt309.2, t307] : List Int))).bind fun t314 => (some (t314, true))) else (some ((([] : List Int)), false)))) else (none)) = some (r1, r2) := H
      obtain ⟨c7, H⟩ := ifN H; have c7b0 : decide (1 < (l0.length : Int)) = true := decide_eq_true c7; have c7b1 : decide (1 < l0.length) = true := decide_eq_true (by omega); clear c7; obtain ⟨⟨t309, t310⟩, A8, H⟩ := bnd H; replace H : (if (wrap64 (t306 + t309)) = 0 then ((spec_l5Plain.f k (([t310, t307] : List Int))).bind fun t314 => (some (t314, true))) else (some ((([] : List Int)), false))) = some (r1, r2) := H
      by_cases c9 : (wrap64 (t306 + t309)) = 0
      · rw [if_pos c9] at H
        have c9b0 : ((wrap64 (t306 + t309)) == 0) = true := beq_iff_eq.mpr c9; have c9b1 : ((wrap64 (t306 + t309)) != 0) = false := bne_eq_false_iff_eq.mpr c9; clear c9; obtain ⟨y311, hy311⟩ : ∃ y_ : List Int, y_ = (([t310, t307] : List Int)) := ⟨_, rfl⟩; replace H : ((spec_l5Plain.f k y311).bind fun t314 => (some (t314, true))) = some (r1, r2) := rH hy311 H; have Ny311 := Aside0.mk hy311; clear hy311; obtain ⟨t314, A10, H⟩ := bnd H; simp only [Option.some.injEq, Prod.mk.injEq] at H; obtain ⟨rfl, rfl⟩ := H; go_enter Try.func59, Try.ntmps59
        go_wp2_with (first | ((with_reducible refine gate_callee (f := 63) rfl ?_); refine goesK (some 9) Try.func63 #[.slice A0 l0.length c0] ?_; (with_reducible refine (spec_FormValid.calls k _ _ l0 true _ ?side1 ?side2 A2.out).mono ?_); (case side1 => exact U HR0.out); (case side2 => exact HC0.out); rintro e w' ⟨rfl, ⟨nd, rfl⟩⟩; refine ⟨_, rfl, ?_⟩; have p305 : 0 ≤ (0 : Int) := (by omega); have q305 : 0 < (l0.length : Int) := oD; obtain ⟨ad305, e305, hx305_0⟩ := Kd.at_int HR0.out 0 p305 q305; cases e305; have qi305 : (0 < l0.length) = True := eq_true (by omega); (try rw [show ((0 : Int)).toNat = 0 from rfl] at hx305_0); (try rw [Addr.add_zero'] at hx305_0); replace p305 := eq_true p305; replace q305 := eq_true q305) | ((with_reducible refine gate_callee (f := 67) rfl ?_); refine goesK (some 20) Try.func67 #[.int .i64 (rd l0 0)] ?_; (with_reducible refine (spec_l1Core.calls k (rd l0 0) t306 t307 _ A6.out).mono ?_); rintro e w11 ⟨rfl, hb⟩; refine ⟨_, rfl, ?_⟩; replace HB := BS hb; (try clear hb); have p308 : 0 ≤ (1 : Int) := (by omega); have q308 : 1 < (l0.length : Int) := oD; obtain ⟨ad308, e308, hx308_0⟩ := Kd.at_int HR0.out 1 p308 q308; obtain rfl : ad305 = ad308 := (by injection e308); (try simp only [show (1 : Int).toNat = 1 from rfl, Nat.reduceMul, Nat.reduceEqDiff, Go.Addr.add, ↓reduceIte] at hx308_0); have qi308 : (1 < l0.length) = True := eq_true (by omega); (try rw [show ((1 : Int)).toNat = 1 from rfl] at hx308_0); replace hx308_0 := (HB.out.cell (World.block_lt_of_cell? w _ hx308_0)).trans hx308_0; replace p308 := eq_true p308; replace q308 := eq_true q308) | ((with_reducible refine gate_callee (f := 67) rfl ?_); refine goesK (some 27) Try.func67 #[.int .i64 (rd l0 1)] ?_; (with_reducible refine (spec_l1Core.calls k (rd l0 1) t309 t310 _ A8.out).mono ?_); rintro e w12 ⟨rfl, hb⟩; refine ⟨_, rfl, ?_⟩; replace HB := BS hb; (try clear hb)) | ((with_reducible refine gate_dst (N := 36) rfl ?_); refine Kd.R_lit (Kd.int .i64) _ 3 ?hg (N := 36) ?hd (xs := ([t310, t307] : List Int)) (inner := [.int .i64 t310, .int .i64 t307]) (ok := fun _ => True) (okp := fun _ => True) ?hr ?hp (fun _ hk => hk) trivial (Below.refl _ _) (Nat.le_refl _) (by simp) ?_; (case hd => rfl); (case hg => rfl); (case hr => first | (go_simp; done) | (go_simp; rfl)); (case hp => exact (Reps.one (show Kd.M (Kd.int .i64) _ _ _ t310 [.int .i64 t310] from rfl) (Reps.one (show Kd.M (Kd.int .i64) _ _ _ t307 [.int .i64 t307] from rfl) (Reps.none _ _)))); intro v312 w13 ho14 hb hg_ hnew_; clear hg_ hnew_; (first | rw [← Ny311.out] at ho14 | (simp only [Int.reduceToNat] at ho14; rw [← Ny311.out] at ho14)); have HO313 := Aside0.mk (Kd.R_lower ho14 (below_size BU)); replace HB := BS hb; clear hb ho14; obtain ⟨Ao15, co15, eo15⟩ := Kd.R_slice HO313.out; subst eo15) | ((with_reducible refine gate_callee (f := 48) rfl ?_); refine goesK (some 37) Try.func48 #[.slice Ao15 y311.length co15] ?_; (with_reducible refine (spec_l5Plain.calls k _ _ y311 t314 _ ?side1 ?side2 A10.out).mono ?_); (case side1 => exact U ((Kd.R_reads' HO313.out).2.2)); (case side2 => exact (Kd.R_reads' HO313.out).2.1); rintro e w16 ⟨v315, rfl, ho0, hb⟩; refine ⟨_, rfl, ?_⟩; have HO316 := Aside0.mk (Kd.R_lower (Kd.R_new' ho0 (Kd.R_lt (U HO313.out))) (below_size BU)); replace HO313 := Aside0.mk (Kd.R_elder' (U HO313.out) (Kd.R_base ho0) hb); replace HB := BS hb; (try clear hb); (try clear ho0)))
        go_ret2
        exact ⟨_, eR, Kd.RM HO316.out (fun _ hk => trivial), BU⟩
      rw [if_neg c9] at H; have c9b0 : ((wrap64 (t306 + t309)) == 0) = false := beq_eq_false_iff_ne.mpr c9; have c9b1 : ((wrap64 (t306 + t309)) != 0) = true := bne_iff_ne.mpr c9; obtain ⟨y317, hy317⟩ : ∃ y_ : List Int, y_ = (([] : List Int)) := ⟨_, rfl⟩; replace H : (some (y317, false)) = some (r1, r2) := rH hy317 H; have Ny317 := Aside0.mk hy317; clear hy317; simp only [Option.some.injEq, Prod.mk.injEq] at H; obtain ⟨rfl, rfl⟩ := H; go_enter Try.func59, Try.ntmps59
      go_wp2_with (first | ((with_reducible refine gate_callee (f := 63) rfl ?_); refine goesK (some 9) Try.func63 #[.slice A0 l0.length c0] ?_; (with_reducible refine (spec_FormValid.calls k _ _ l0 true _ ?side1 ?side2 A2.out).mono ?_); (case side1 => exact U HR0.out); (case side2 => exact HC0.out); rintro e w' ⟨rfl, ⟨nd, rfl⟩⟩; refine ⟨_, rfl, ?_⟩; have p305 : 0 ≤ (0 : Int) := (by omega); have q305 : 0 < (l0.length : Int) := oD; obtain ⟨ad305, e305, hx305_0⟩ := Kd.at_int HR0.out 0 p305 q305; cases e305; have qi305 : (0 < l0.length) = True := eq_true (by omega); (try rw [show ((0 : Int)).toNat = 0 from rfl] at hx305_0); (try rw [Addr.add_zero'] at hx305_0); replace p305 := eq_true p305; replace q305 := eq_true q305) | ((with_reducible refine gate_callee (f := 67) rfl ?_); refine goesK (some 20) Try.func67 #[.int .i64 (rd l0 0)] ?_; (with_reducible refine (spec_l1Core.calls k (rd l0 0) t306 t307 _ A6.out).mono ?_); rintro e w17 ⟨rfl, hb⟩; refine ⟨_, rfl, ?_⟩; replace HB := BS hb; (try clear hb); have p308 : 0 ≤ (1 : Int) := (by omega); have q308 : 1 < (l0.length : Int) := oD; obtain ⟨ad308, e308, hx308_0⟩ := Kd.at_int HR0.out 1 p308 q308; obtain rfl : ad305 = ad308 := (by injection e308); (try simp only [show (1 : Int).toNat = 1 from rfl, Nat.reduceMul, Nat.reduceEqDiff, Go.Addr.add, ↓reduceIte] at hx308_0); have qi308 : (1 < l0.length) = True := eq_true (by omega); (try rw [show ((1 : Int)).toNat = 1 from rfl] at hx308_0); replace hx308_0 := (HB.out.cell (World.block_lt_of_cell? w _ hx308_0)).trans hx308_0; replace p308 := eq_true p308; replace q308 := eq_true q308) | ((with_reducible refine gate_callee (f := 67) rfl ?_); refine goesK (some 27) Try.func67 #[.int .i64 (rd l0 1)] ?_; (with_reducible refine (spec_l1Core.calls k (rd l0 1) t309 t310 _ A8.out).mono ?_); rintro e w18 ⟨rfl, hb⟩; refine ⟨_, rfl, ?_⟩; replace HB := BS hb; (try clear hb)) | ((with_reducible refine gate_dst (N := 50) rfl ?_); refine Kd.R_lit (Kd.int .i64) _ 3 ?hg (N := 50) ?hd (xs := ([] : List Int)) (inner := []) (ok := fun _ => True) (okp := fun _ => True) ?hr ?hp (fun _ hk => hk) trivial (Below.refl _ _) (Nat.le_refl _) (by simp) ?_; (case hd => rfl); (case hg => rfl); (case hr => first | (go_simp; done) | (go_simp; rfl)); (case hp => exact (Reps.none _ _)); intro v318 w19 ho20 hb hg_ hnew_; clear hg_ hnew_; (first | rw [← Ny317.out] at ho20 | (simp only [Int.reduceToNat] at ho20; rw [← Ny317.out] at ho20)); have HO319 := Aside0.mk (Kd.R_lower ho20 (below_size BU)); replace HB := BS hb; clear hb ho20))
      go_ret2
      exact ⟨_, eR, U HO319.out, BU⟩
    rw [if_neg c4] at H; have c4b0 : ((l0.length : Int) == 2) = false := beq_eq_false_iff_ne.mpr c4; have c4b1 : ((l0.length : Int) != 2) = true := bne_iff_ne.mpr c4
    by_cases c21 : (l0.length : Int) = 3
    · rw [if_pos c21] at H
      have c21b0 : ((l0.length : Int) == 3) = true := beq_iff_eq.mpr c21; have c21b1 : ((l0.length : Int) != 3) = false := bne_eq_false_iff_eq.mpr c21; clear c21; obtain ⟨⟨t320, t321⟩, A22, H⟩ := bnd H; replace H : (some (t320, t321)) = some (r1, r2) := H; simp only [Option.some.injEq, Prod.mk.injEq] at H; obtain ⟨rfl, rfl⟩ := H; go_enter Try.func59, Try.ntmps59
      go_wp2_with (first | ((with_reducible refine gate_callee (f := 63) rfl ?_); refine goesK (some 9) Try.func63 #[.slice A0 l0.length c0] ?_; (with_reducible refine (spec_FormValid.calls k _ _ l0 true _ ?side1 ?side2 A2.out).mono ?_); (case side1 => exact U HR0.out); (case side2 => exact HC0.out); rintro e w' ⟨rfl, ⟨nd, rfl⟩⟩; refine ⟨_, rfl, ?_⟩) | ((with_reducible refine gate_callee (f := 68) rfl ?_); refine goesK (some 41) Try.func68 #[.slice A0 l0.length c0] ?_; (with_reducible refine (spec_l5Three.calls k _ _ l0 t320 t321 _ ?side1 ?side2 A22.out).mono ?_); (case side1 => exact U HR0.out); (case side2 => exact HC0.out); rintro e w23 ⟨v322, rfl, ho0, hb⟩; refine ⟨_, rfl, ?_⟩; have HO323 := Aside0.mk (Kd.R_lower ho0 (below_size BU)); replace HB := BS hb; (try clear hb); (try clear ho0)))
      go_ret2
      exact ⟨_, eR, U HO323.out, BU⟩
    rw [if_neg c21] at H; have c21b0 : ((l0.length : Int) == 3) = false := beq_eq_false_iff_ne.mpr c21; have c21b1 : ((l0.length : Int) != 3) = true := bne_iff_ne.mpr c21
    by_cases c24 : (l0.length : Int) = 4
    · rw [if_pos c24] at H
      have c24b0 : ((l0.length : Int) == 4) = true := beq_iff_eq.mpr c24; have c24b1 : ((l0.length : Int) != 4) = false := bne_eq_false_iff_eq.mpr c24; clear c24; obtain ⟨⟨t324, t325⟩, A25, H⟩ := bnd H; replace H : (some (t324, t325)) = some (r1, r2) := H; simp only [Option.some.injEq, Prod.mk.injEq] at H; obtain ⟨rfl, rfl⟩ := H; go_enter Try.func59, Try.ntmps59
      go_wp2_with (first | ((with_reducible refine gate_callee (f := 63) rfl ?_); refine goesK (some 9) Try.func63 #[.slice A0 l0.length c0] ?_; (with_reducible refine (spec_FormValid.calls k _ _ l0 true _ ?side1 ?side2 A2.out).mono ?_); (case side1 => exact U HR0.out); (case side2 => exact HC0.out); rintro e w' ⟨rfl, ⟨nd, rfl⟩⟩; refine ⟨_, rfl, ?_⟩) | ((with_reducible refine gate_callee (f := 69) rfl ?_); refine goesK (some 47) Try.func69 #[.slice A0 l0.length c0] ?_; (with_reducible refine (spec_l5Four.calls k _ _ l0 t324 t325 _ ?side1 ?side2 A25.out).mono ?_); (case side1 => exact U HR0.out); (case side2 => exact HC0.out); rintro e w26 ⟨v326, rfl, ho0, hb⟩; refine ⟨_, rfl, ?_⟩; have HO327 := Aside0.mk (Kd.R_lower ho0 (below_size BU)); replace HB := BS hb; (try clear hb); (try clear ho0)))
      go_ret2
      exact ⟨_, eR, U HO327.out, BU⟩
    rw [if_neg c24] at H; have c24b0 : ((l0.length : Int) == 4) = false := beq_eq_false_iff_ne.mpr c24; have c24b1 : ((l0.length : Int) != 4) = true := bne_iff_ne.mpr c24; obtain ⟨y328, hy328⟩ : ∃ y_ : List Int, y_ = (([] : List Int)) := ⟨_, rfl⟩; replace H : (some (y328, false)) = some (r1, r2) := rH hy328 H; have Ny328 := Aside0.mk hy328; clear hy328; simp only [Option.some.injEq, Prod.mk.injEq] at H; obtain ⟨rfl, rfl⟩ := H; go_enter Try.func59, Try.ntmps59
    go_wp2_with (first | ((with_reducible refine gate_callee (f := 63) rfl ?_); refine goesK (some 9) Try.func63 #[.slice A0 l0.length c0] ?_; (with_reducible refine (spec_FormValid.calls k _ _ l0 true _ ?side1 ?side2 A2.out).mono ?_); (case side1 => exact U HR0.out); (case side2 => exact HC0.out); rintro e w' ⟨rfl, ⟨nd, rfl⟩⟩; refine ⟨_, rfl, ?_⟩) | ((with_reducible refine gate_dst (N := 50) rfl ?_); refine Kd.R_lit (Kd.int .i64) _ 3 ?hg (N := 50) ?hd (xs := ([] : List Int)) (inner := []) (ok := fun _ => True) (okp := fun _ => True) ?hr ?hp (fun _ hk => hk) trivial (Below.refl _ _) (Nat.le_refl _) (by simp) ?_; (case hd => rfl); (case hg => rfl); (case hr => first | (go_simp; done) | (go_simp; rfl)); (case hp => exact (Reps.none _ _)); intro v329 w27 ho28 hb hg_ hnew_; clear hg_ hnew_; (first | rw [← Ny328.out] at ho28 | (simp only [Int.reduceToNat] at ho28; rw [← Ny328.out] at ho28)); have HO330 := Aside0.mk (Kd.R_lower ho28 (below_size BU)); replace HB := BS hb; clear hb ho28))
    go_ret2
    exact ⟨_, eR, U HO330.out, BU⟩
  replace c3 := Bool.eq_false_iff.mpr c3; subst c3; replace H := ifF H; obtain ⟨y302, hy302⟩ : ∃ y_ : List Int, y_ = (([] : List Int)) := ⟨_, rfl⟩; replace H : (some (y302, false)) = some (r1, r2) := rH hy302 H; have Ny302 := Aside0.mk hy302; clear hy302; simp only [Option.some.injEq, Prod.mk.injEq] at H; obtain ⟨rfl, rfl⟩ := H; go_enter Try.func59, Try.ntmps59
  go_wp2_with (first | ((with_reducible refine gate_callee (f := 63) rfl ?_); refine goesK (some 9) Try.func63 #[.slice A0 l0.length c0] ?_; (with_reducible refine (spec_FormValid.calls k _ _ l0 false _ ?side1 ?side2 A2.out).mono ?_); (case side1 => exact U HR0.out); (case side2 => exact HC0.out); rintro e w' ⟨rfl, ⟨nd, rfl⟩⟩; refine ⟨_, rfl, ?_⟩) | ((with_reducible refine gate_dst (N := 11) rfl ?_); refine Kd.R_lit (Kd.int .i64) _ 3 ?hg (N := 11) ?hd (xs := ([] : List Int)) (inner := []) (ok := fun _ => True) (okp := fun _ => True) ?hr ?hp (fun _ hk => hk) trivial (Below.refl _ _) (Nat.le_refl _) (by simp) ?_; (case hd => rfl); (case hg => rfl); (case hr => first | (go_simp; done) | (go_simp; rfl)); (case hp => exact (Reps.none _ _)); intro v303 w29 ho30 hb hg_ hnew_; clear hg_ hnew_; (first | rw [← Ny302.out] at ho30 | (simp only [Int.reduceToNat] at ho30; rw [← Ny302.out] at ho30)); have HO304 := Aside0.mk (Kd.R_lower ho30 (below_size BU)); replace HB := BS hb; clear hb ho30))
  go_ret2
  exact ⟨_, eR, U HO304.out, BU⟩

/-! ### spec_l92Point: function 28 -/
def spec_l92Point.j0 : Nat → List Int → List Int → Int → Option (List Int × List Int × Int)
  | 0, _, _, _ => none
  | k + 1, x4, x1000, x1001 => (spec_ZeroFind.f k x4).bind fun bt340 => (if bt340.2 = true then ((spec_l6Rd_pick.f k x1000 x1001 16).bind fun bt344 => (if bt344.1 > 0 then (some (x4, bt340.1, bt344.2)) else ((spec_l91Vector.f k x1000 bt344.2 x4 3).bind fun bt346 => (some (x4, bt346.1, bt346.2))))) else ((spec_l91Vector.f k x1000 x1001 x4 3).bind fun bt350 => (some (x4, bt350.1, bt350.2))))
def spec_l92Point.f (k : Nat) (s0_0 : List Int) (s0_1 : Int) : Option (List Int × List Int × Int) := (spec_l92Form.f k s0_0 s0_1 3).bind fun bt331 => ((spec_l6Rd_pick.f k s0_0 bt331.2 4).bind fun bt335 => (if bt335.1 = 0 then (spec_l92Point.j0 k (([1, 1, (-1)] : List Int)) s0_0 bt335.2) else (spec_l92Point.j0 k bt331.1 s0_0 bt335.2)))
theorem spec_l92Point.mono_l : ∀ k, (∀ y0 y1 y2, LeO (spec_l92Point.j0 k y0 y1 y2) (spec_l92Point.j0 (k + 1) y0 y1 y2))
  | 0 => fun _ _ _ r h => by simp [spec_l92Point.j0] at h
  | k + 1 => by
    have ih0 := spec_l92Point.mono_l k
    · intro y0 y1 y2
      unfold spec_l92Point.j0
      repeat' first
      | (with_reducible exact ih0 _ _ _)
      | (with_reducible exact spec_ZeroFind.mono _ _)
      | (with_reducible exact spec_l6Rd_pick.mono _ _ _ _)
      | (with_reducible exact spec_l91Vector.mono _ _ _ _ _)
      | (with_reducible exact spec_l92Form.mono _ _ _ _)
      | (with_reducible exact LeO.refl _)
      | (with_reducible exact LeO.none _)
      | (with_reducible refine LeO.ite ?_ ?_)
      | (with_reducible refine LeO.bind ?_ (fun _ => ?_))
      | exact ih0 _ _ _
      | exact spec_ZeroFind.mono _ _
      | exact spec_l6Rd_pick.mono _ _ _ _
      | exact spec_l91Vector.mono _ _ _ _ _
      | exact spec_l92Form.mono _ _ _ _
      | exact LeO.none _
      | refine LeO.ite ?_ ?_
      | refine LeO.bind ?_ (fun _ => ?_)
theorem spec_l92Point.mono : ∀ a0 a1 k, LeO (spec_l92Point.f k a0 a1) (spec_l92Point.f (k + 1) a0 a1) := by
  intro a0 a1 k
  have ih0 := spec_l92Point.mono_l k
  unfold spec_l92Point.f
  repeat' first
      | (with_reducible exact ih0 _ _ _)
      | (with_reducible exact spec_ZeroFind.mono _ _)
      | (with_reducible exact spec_l6Rd_pick.mono _ _ _ _)
      | (with_reducible exact spec_l91Vector.mono _ _ _ _ _)
      | (with_reducible exact spec_l92Form.mono _ _ _ _)
      | (with_reducible exact LeO.refl _)
      | (with_reducible exact LeO.none _)
      | (with_reducible refine LeO.ite ?_ ?_)
      | (with_reducible refine LeO.bind ?_ (fun _ => ?_))
      | exact ih0 _ _ _
      | exact spec_ZeroFind.mono _ _
      | exact spec_l6Rd_pick.mono _ _ _ _
      | exact spec_l91Vector.mono _ _ _ _ _
      | exact spec_l92Form.mono _ _ _ _
      | exact LeO.none _
      | refine LeO.ite ?_ ?_
      | refine LeO.bind ?_ (fun _ => ?_)
set_option maxHeartbeats 8000000 in
set_option maxRecDepth 100000 in
theorem spec_l92Point.calls (k : Nat) (g : Nat) (s0_0 : List Int) (s0_1 : Int) (r1 : List Int) (r2 : List Int) (r3 : Int) (w0 w : World) (hI : IsS70 w0 w g s0_0 s0_1) (hB : Below w0.heap.size w0 w) (h : spec_l92Point.f k s0_0 s0_1 = some (r1, r2, r3)) :
    Calls Try.prog 28 #[.pointer (some ⟨g, 0, none⟩)] w fun e w' => ∃ v0_ v1_ : Value, e = .returned (.tuple #[v0_, v1_]) ∧ Kd.R (Kd.int .i64) 3 w' w.heap.size (fun k_ => some k_ ≠ (v1_ : Value).ownBlock) v0_ r1 ∧ Kd.R (Kd.int .i64) 3 w' w.heap.size (fun k_ => some k_ ≠ (v0_ : Value).ownBlock) v1_ r2 ∧ IsS70 w0 w' g s0_0 r3 ∧ Below w0.heap.size w0 w' ∧ KeepBut w w' g none := by
  have HI0 := Aside0.mk hI; have HK := Aside0.mk (KeepBut.refl w g none); have HL := Aside0.mk hB.size; clear hI; have HW0 := Aside0.mk hB.size; have HB := Aside0.mk hB; clear hB; unfold spec_l92Point.f at h; have H := h; clear h; obtain ⟨⟨t331, t334⟩, A2, H⟩ := bnd H
  replace H : ((spec_l6Rd_pick.f k s0_0 t334 4).bind fun bt335 => (if bt335.1 = 0 then (spec_l92Point.j0 k (([1, 1, (-1)] : List Int)) s0_0 bt335.2) else (spec_l92Point.j0 k t331 s0_0 bt335.2))) = some (r1, r2, r3) := H
  obtain ⟨⟨t335, t336⟩, A3, H⟩ := bnd H; replace H : (if t335 = 0 then (spec_l92Point.j0 k (([1, 1, (-1)] : List Int)) s0_0 t336) else (spec_l92Point.j0 k t331 s0_0 t336)) = some (r1, r2, r3) := H; have HC4 := Aside0.mk H; clear H; go_enter Try.func28, Try.ntmps28
  go_upto_if 11 with (first | ((with_reducible refine gate_callee (f := 58) rfl ?_); refine goesK (some 8) Try.func58 #[.pointer (some ⟨g, 0, none⟩), .int .i64 3] ?_; (with_reducible refine (spec_l92Form.calls k g s0_0 s0_1 3 t331 t334 w0 _ ?side1 ?side2 A2.out).mono ?_); (case side1 => repeat (first | (with_reducible first | exact HI0.out | apply IsS70.alloc | apply IsS70.drewN | apply IsS70.drew | apply IsS70.set_1) | exact HI0.out)); (case side2 => repeat (first | (with_reducible first | exact HB.out | apply below_alloc | apply pw_below_drewN | apply below_drew1 | refine below_set ?_ (IsS70.ge HI0.out)) | exact HB.out)); rintro e w5 ⟨v332, rfl, ho0, hi, hb, hk⟩; refine ⟨_, rfl, ?_⟩; have HO333 := Aside0.mk (Kd.R_lower ho0 (keep_size (w := w) (g := g) (row := none) KU)); replace HK := Aside0.mk (KeepBut.trans KU hk (.inl rfl)); replace HB := Aside0.mk (hb); replace HI0 := Aside0.mk (hi); (try clear hb); (try clear hk); (try clear hi); (try clear ho0)) | ((with_reducible refine gate_callee (f := 42) rfl ?_); refine goesK (some 10) Try.func42 #[.pointer (some ⟨g, 0, none⟩), .int .i64 4] ?_; (with_reducible refine (spec_l6Rd_pick.calls k g s0_0 t334 4 t335 t336 w0 _ ?side1 ?side2 A3.out).mono ?_); (case side1 => repeat (first | (with_reducible first | exact HI0.out | apply IsS70.alloc | apply IsS70.drewN | apply IsS70.drew | apply IsS70.set_1) | exact HI0.out)); (case side2 => repeat (first | (with_reducible first | exact HB.out | apply below_alloc | apply pw_below_drewN | apply below_drew1 | refine below_set ?_ (IsS70.ge HI0.out)) | exact HB.out)); rintro e w6 ⟨rfl, hi, hb, hk⟩; refine ⟨_, rfl, ?_⟩; replace HO333 := Aside0.mk (Kd.R_mono (Kd.R_keep (IsS70.apart (show IsS70 w0 _ g s0_0 t334 from by repeat (first | (with_reducible first | exact HI0.out | apply IsS70.alloc | apply IsS70.drewN | apply IsS70.drew | apply IsS70.set_1) | exact HI0.out)) (U HO333.out) (by decide)) hk (fun _ h => h.2)) (fun _ h => h.1)); replace HK := Aside0.mk (KeepBut.trans KU hk (.inl rfl)); replace HB := Aside0.mk (hb); replace HI0 := Aside0.mk (hi); (try clear hb); (try clear hk); (try clear hi)))
  (try simp only [Act.put, List.setIfInBounds_toArray, List.set_cons_zero, List.set_cons_succ])
  go_cut [4] (fun v4 wc => ∃ (kq : Nat) (x4_3 : List Int), Aside0 (spec_l92Point.j0 kq x4_3 s0_0 t336 = some (r1, r2, r3)) ∧ Aside0 (kq ≤ k) ∧ Aside0 (Kd.R (Kd.int .i64) 3 wc w.heap.size (fun _ => True) v4 x4_3) ∧ Aside0 (IsS70 w0 wc g s0_0 t336) ∧ Aside0 (KeepBut w wc g none) ∧ Aside0 (Below w0.heap.size w0 wc))
  case first =>
    have H := HC4.out; clear HC4
    by_cases c7 : t335 = 0
    · rw [if_pos c7] at H
      have c7b0 : (t335 == 0) = true := beq_iff_eq.mpr c7; have c7b1 : (t335 != 0) = false := bne_eq_false_iff_eq.mpr c7; clear c7
      (first | rw [c7b0] | (simp only [i64_w, i32_w]; rw [c7b0]) | skip)
      obtain ⟨y337, hy337⟩ : ∃ y_ : List Int, y_ = (([1, 1, (-1)] : List Int)) := ⟨_, rfl⟩; replace H : (spec_l92Point.j0 k y337 s0_0 t336) = some (r1, r2, r3) := rH hy337 H; have Ny337 := Aside0.mk hy337; clear hy337; have H' := Aside0.mk H; clear H
      go_wp2_with (first | ((with_reducible refine gate_dst (N := 12) rfl ?_); refine Kd.R_lit (Kd.int .i64) _ 3 ?hg (N := 12) ?hd (xs := ([1, 1, (-1)] : List Int)) (inner := [.int .i64 1, .int .i64 1, .int .i64 (-1)]) (ok := fun _ => True) (okp := fun _ => True) ?hr ?hp (fun _ hk => hk) trivial (Below.refl _ _) (Nat.le_refl _) (by simp) ?_; (case hd => rfl); (case hg => rfl); (case hr => first | (go_simp; done) | (go_simp; rfl)); (case hp => exact (Reps.one (show Kd.M (Kd.int .i64) _ _ _ 1 [.int .i64 1] from rfl) (Reps.one (show Kd.M (Kd.int .i64) _ _ _ 1 [.int .i64 1] from rfl) (Reps.one (show Kd.M (Kd.int .i64) _ _ _ (-1) [.int .i64 (-1)] from rfl) (Reps.none _ _))))); intro v338 w8 ho9 hb hg_ hnew_; clear hg_ hnew_; (first | rw [← Ny337.out] at ho9 | (simp only [Int.reduceToNat] at ho9; rw [← Ny337.out] at ho9)); have HO339 := Aside0.mk (Kd.R_lower (Kd.R_new' ho9 (Kd.R_lt (U HO333.out))) (keep_size (w := w) (g := g) (row := none) KU)); replace HO333 := Aside0.mk (Kd.R_elder' (U HO333.out) (Kd.R_base ho9) hb); replace HK := Aside0.mk (KeepBut.trans KU (KeepBut.of_below hb g none) (.inl rfl)); replace HB := Aside0.mk (below_step (by repeat (first | (with_reducible first | exact HB.out | apply below_alloc | apply pw_below_drewN | apply below_drew1 | refine below_set ?_ (IsS70.ge HI0.out)) | exact HB.out)) hb); replace HI0 := Aside0.mk (IsS70.below (by repeat (first | (with_reducible first | exact HI0.out | apply IsS70.alloc | apply IsS70.drewN | apply IsS70.drew | apply IsS70.set_1) | exact HI0.out)) hb); clear hb ho9))
      go_meet
      case rel => exact ⟨_, (y337), H', ⟨oR⟩, ⟨Kd.RM HO339.out (fun _ hk => trivial)⟩, ⟨by repeat (first | (with_reducible first | exact HI0.out | apply IsS70.alloc | apply IsS70.drewN | apply IsS70.drew | apply IsS70.set_1) | exact HI0.out)⟩, ⟨by repeat (first | (with_reducible first | exact HK.out | apply KeepBut.set_ | apply keep_drewN | apply keep_drew | apply keep_alloc) | exact HK.out)⟩, ⟨by repeat (first | (with_reducible first | exact HB.out | apply below_alloc | apply pw_below_drewN | apply below_drew1 | refine below_set ?_ (IsS70.ge HI0.out)) | exact HB.out)⟩⟩
    rw [if_neg c7] at H; have c7b0 : (t335 == 0) = false := beq_eq_false_iff_ne.mpr c7; have c7b1 : (t335 != 0) = true := bne_iff_ne.mpr c7
    (first | rw [c7b0] | (simp only [i64_w, i32_w]; rw [c7b0]) | skip)
    have H' := Aside0.mk H; clear H
    go_wp2
    go_meet
    case rel => exact ⟨_, (t331), H', ⟨oR⟩, ⟨U HO333.out⟩, ⟨by repeat (first | (with_reducible first | exact HI0.out | apply IsS70.alloc | apply IsS70.drewN | apply IsS70.drew | apply IsS70.set_1) | exact HI0.out)⟩, ⟨by repeat (first | (with_reducible first | exact HK.out | apply KeepBut.set_ | apply keep_drewN | apply keep_drew | apply keep_alloc) | exact HK.out)⟩, ⟨by repeat (first | (with_reducible first | exact HB.out | apply below_alloc | apply pw_below_drewN | apply below_drew1 | refine below_set ?_ (IsS70.ge HI0.out)) | exact HB.out)⟩⟩
  case rest =>
    clear HC4; obtain ⟨kq, x4_3, HA, HJ3, HO_4, HI0, HK, HB⟩ := hcut; cases kq with
    | zero => exact absurd HA.out (by simp [spec_l92Point.j0])
    | succ kj3 =>
      have H := HA.out; clear HA; simp only [spec_l92Point.j0] at H; obtain ⟨⟨t340, t341⟩, A10, H⟩ := bnd H
      replace H : (if t341 = true then ((spec_l6Rd_pick.f kj3 s0_0 t336 16).bind fun bt344 => (if bt344.1 > 0 then (some (x4_3, t340, bt344.2)) else ((spec_l91Vector.f kj3 s0_0 bt344.2 x4_3 3).bind fun bt346 => (some (x4_3, bt346.1, bt346.2))))) else ((spec_l91Vector.f kj3 s0_0 t336 x4_3 3).bind fun bt350 => (some (x4_3, bt350.1, bt350.2)))) = some (r1, r2, r3) := H
      by_cases c11 : t341 = true
      · subst c11
        replace H := ifT H; obtain ⟨⟨t344, t345⟩, A12, H⟩ := bnd H; replace H : (if t344 > 0 then (some (x4_3, t340, t345)) else ((spec_l91Vector.f kj3 s0_0 t345 x4_3 3).bind fun bt346 => (some (x4_3, bt346.1, bt346.2)))) = some (r1, r2, r3) := H
        by_cases c13 : t344 > 0
        · rw [if_pos c13] at H
          have c13b0 : decide (0 < t344) = true := decide_eq_true c13; clear c13; simp only [Option.some.injEq, Prod.mk.injEq] at H; obtain ⟨rfl, rfl, rfl⟩ := H; obtain ⟨Ao14, co14, eo14⟩ := Kd.R_slice HO_4.out; subst eo14
          go_wp2_with (first | ((with_reducible refine gate_callee (f := 59) rfl ?_); refine goesK (some 15) Try.func59 #[.slice Ao14 x4_3.length co14] ?_; (with_reducible refine (spec_ZeroFind.calls kj3 _ _ x4_3 t340 true _ ?side1 ?side2 A10.out).mono ?_); (case side1 => exact U ((Kd.R_reads' HO_4.out).2.2)); (case side2 => exact (Kd.R_reads' HO_4.out).2.1); rintro e w15 ⟨v342, rfl, ho0, hb⟩; refine ⟨_, rfl, ?_⟩; have HO343 := Aside0.mk (Kd.R_lower (Kd.R_new' ho0 (Kd.R_lt (U HO_4.out))) (keep_size (w := w) (g := g) (row := none) KU)); replace HO_4 := Aside0.mk (Kd.R_elder' (U HO_4.out) (Kd.R_base ho0) hb); replace HK := Aside0.mk (KeepBut.trans KU (KeepBut.of_below hb g none) (.inl rfl)); replace HB := Aside0.mk (below_step (by repeat (first | (with_reducible first | exact HB.out | apply below_alloc | apply pw_below_drewN | apply below_drew1 | refine below_set ?_ (IsS70.ge HI0.out)) | exact HB.out)) hb); replace HI0 := Aside0.mk (IsS70.below (by repeat (first | (with_reducible first | exact HI0.out | apply IsS70.alloc | apply IsS70.drewN | apply IsS70.drew | apply IsS70.set_1) | exact HI0.out)) hb); (try clear hb); (try clear ho0)) | (go_at_call 42; (with_reducible refine (spec_l6Rd_pick.calls kj3 g s0_0 t336 16 t344 t345 w0 _ ?side1 ?side2 A12.out).mono ?_); (case side1 => repeat (first | (with_reducible first | exact HI0.out | apply IsS70.alloc | apply IsS70.drewN | apply IsS70.drew | apply IsS70.set_1) | exact HI0.out)); (case side2 => repeat (first | (with_reducible first | exact HB.out | apply below_alloc | apply pw_below_drewN | apply below_drew1 | refine below_set ?_ (IsS70.ge HI0.out)) | exact HB.out)); rintro e w16 ⟨rfl, hi, hb, hk⟩; replace HO_4 := Aside0.mk (Kd.R_mono (Kd.R_keep (IsS70.apart (show IsS70 w0 _ g s0_0 t336 from by repeat (first | (with_reducible first | exact HI0.out | apply IsS70.alloc | apply IsS70.drewN | apply IsS70.drew | apply IsS70.set_1) | exact HI0.out)) (U HO_4.out) (by decide)) hk (fun _ h => h.2)) (fun _ h => h.1)); replace HO343 := Aside0.mk (Kd.R_mono (Kd.R_keep (IsS70.apart (show IsS70 w0 _ g s0_0 t336 from by repeat (first | (with_reducible first | exact HI0.out | apply IsS70.alloc | apply IsS70.drewN | apply IsS70.drew | apply IsS70.set_1) | exact HI0.out)) (U HO343.out) (by decide)) hk (fun _ h => h.2)) (fun _ h => h.1)); replace HK := Aside0.mk (KeepBut.trans KU hk (.inl rfl)); replace HB := Aside0.mk (hb); replace HI0 := Aside0.mk (hi); (try clear hb); (try clear hk); (try clear hi)))
          go_ret2
          exact ⟨_, _, by first | rfl | (simp [errW_none, errW_some] <;> rfl) | (simp [*, errW_none, errW_some] <;> rfl), Kd.RM HO_4.out (fun _ hk => hk.2), Kd.RM HO343.out (fun _ hk => hk.2), by repeat (first | (with_reducible first | exact HI0.out | apply IsS70.alloc | apply IsS70.drewN | apply IsS70.drew | apply IsS70.set_1) | exact HI0.out), by repeat (first | (with_reducible first | exact HB.out | apply below_alloc | apply pw_below_drewN | apply below_drew1 | refine below_set ?_ (IsS70.ge HI0.out)) | exact HB.out), by repeat (first | (with_reducible first | exact HK.out | apply KeepBut.set_ | apply keep_drewN | apply keep_drew | apply keep_alloc) | exact HK.out)⟩
        rw [if_neg c13] at H; have c13b0 : decide (0 < t344) = false := decide_eq_false c13; clear c13; obtain ⟨⟨t346, t349⟩, A17, H⟩ := bnd H; replace H : (some (x4_3, t346, t349)) = some (r1, r2, r3) := H; simp only [Option.some.injEq, Prod.mk.injEq] at H; obtain ⟨rfl, rfl, rfl⟩ := H; obtain ⟨Ao18, co18, eo18⟩ := Kd.R_slice HO_4.out; subst eo18
        go_wp2_with (first | ((with_reducible refine gate_callee (f := 59) rfl ?_); refine goesK (some 15) Try.func59 #[.slice Ao18 x4_3.length co18] ?_; (with_reducible refine (spec_ZeroFind.calls kj3 _ _ x4_3 t340 true _ ?side1 ?side2 A10.out).mono ?_); (case side1 => exact U ((Kd.R_reads' HO_4.out).2.2)); (case side2 => exact (Kd.R_reads' HO_4.out).2.1); rintro e w19 ⟨v342, rfl, ho0, hb⟩; refine ⟨_, rfl, ?_⟩; have HO343 := Aside0.mk (Kd.R_lower (Kd.R_new' ho0 (Kd.R_lt (U HO_4.out))) (keep_size (w := w) (g := g) (row := none) KU)); replace HO_4 := Aside0.mk (Kd.R_elder' (U HO_4.out) (Kd.R_base ho0) hb); replace HK := Aside0.mk (KeepBut.trans KU (KeepBut.of_below hb g none) (.inl rfl)); replace HB := Aside0.mk (below_step (by repeat (first | (with_reducible first | exact HB.out | apply below_alloc | apply pw_below_drewN | apply below_drew1 | refine below_set ?_ (IsS70.ge HI0.out)) | exact HB.out)) hb); replace HI0 := Aside0.mk (IsS70.below (by repeat (first | (with_reducible first | exact HI0.out | apply IsS70.alloc | apply IsS70.drewN | apply IsS70.drew | apply IsS70.set_1) | exact HI0.out)) hb); (try clear hb); (try clear ho0)) | (go_at_call 42; (with_reducible refine (spec_l6Rd_pick.calls kj3 g s0_0 t336 16 t344 t345 w0 _ ?side1 ?side2 A12.out).mono ?_); (case side1 => repeat (first | (with_reducible first | exact HI0.out | apply IsS70.alloc | apply IsS70.drewN | apply IsS70.drew | apply IsS70.set_1) | exact HI0.out)); (case side2 => repeat (first | (with_reducible first | exact HB.out | apply below_alloc | apply pw_below_drewN | apply below_drew1 | refine below_set ?_ (IsS70.ge HI0.out)) | exact HB.out)); rintro e w20 ⟨rfl, hi, hb, hk⟩; replace HO_4 := Aside0.mk (Kd.R_mono (Kd.R_keep (IsS70.apart (show IsS70 w0 _ g s0_0 t336 from by repeat (first | (with_reducible first | exact HI0.out | apply IsS70.alloc | apply IsS70.drewN | apply IsS70.drew | apply IsS70.set_1) | exact HI0.out)) (U HO_4.out) (by decide)) hk (fun _ h => h.2)) (fun _ h => h.1)); replace HO343 := Aside0.mk (Kd.R_mono (Kd.R_keep (IsS70.apart (show IsS70 w0 _ g s0_0 t336 from by repeat (first | (with_reducible first | exact HI0.out | apply IsS70.alloc | apply IsS70.drewN | apply IsS70.drew | apply IsS70.set_1) | exact HI0.out)) (U HO343.out) (by decide)) hk (fun _ h => h.2)) (fun _ h => h.1)); replace HK := Aside0.mk (KeepBut.trans KU hk (.inl rfl)); replace HB := Aside0.mk (hb); replace HI0 := Aside0.mk (hi); (try clear hb); (try clear hk); (try clear hi)) | ((with_reducible refine gate_callee (f := 41) rfl ?_); refine goesK (some 29) Try.func41 #[.pointer (some ⟨g, 0, none⟩), .slice Ao18 x4_3.length co18, .int .i64 3] ?_; (with_reducible refine (spec_l91Vector.calls kj3 g s0_0 t345 _ _ x4_3 3 t346 t349 w0 _ ?side1 ?side2 ?side3 ?side4 ?side5 A17.out).mono ?_); (case side1 => repeat (first | (with_reducible first | exact HI0.out | apply IsS70.alloc | apply IsS70.drewN | apply IsS70.drew | apply IsS70.set_1) | exact HI0.out)); (case side2 => repeat (first | (with_reducible first | exact HB.out | apply below_alloc | apply pw_below_drewN | apply below_drew1 | refine below_set ?_ (IsS70.ge HI0.out)) | exact HB.out)); (case side3 => exact U ((Kd.R_reads' HO_4.out).2.2)); (case side4 => exact (Kd.R_reads' HO_4.out).2.1); (case side5 => exact far_slice (IsS70.own_ne HI0.out HO_4.out (by decide))); rintro e w21 ⟨v347, rfl, ho0, hi, hb, hk⟩; refine ⟨_, rfl, ?_⟩; have HO348 := Aside0.mk (Kd.R_lower (Kd.R_new' (Kd.R_new' ho0 (Kd.R_lt (U HO_4.out))) (Kd.R_lt (U HO343.out))) (keep_size (w := w) (g := g) (row := none) KU)); replace HO_4 := Aside0.mk (Kd.R_mono (Kd.R_told (Kd.R_oldK (IsS70.apart (show IsS70 w0 _ g s0_0 t345 from by repeat (first | (with_reducible first | exact HI0.out | apply IsS70.alloc | apply IsS70.drewN | apply IsS70.drew | apply IsS70.set_1) | exact HI0.out)) (U HO_4.out) (by decide)) hk) (Kd.R_base ho0)) (fun _ h_ => h_.1)); replace HO343 := Aside0.mk (Kd.R_mono (Kd.R_told (Kd.R_oldK (IsS70.apart (show IsS70 w0 _ g s0_0 t345 from by repeat (first | (with_reducible first | exact HI0.out | apply IsS70.alloc | apply IsS70.drewN | apply IsS70.drew | apply IsS70.set_1) | exact HI0.out)) (U HO343.out) (by decide)) hk) (Kd.R_base ho0)) (fun _ h_ => h_.1)); replace HK := Aside0.mk (KeepBut.trans KU hk (.inl rfl)); replace HB := Aside0.mk (hb); replace HI0 := Aside0.mk (hi); (try clear hb); (try clear hk); (try clear hi); (try clear ho0)))
        go_ret2
        exact ⟨_, _, by first | rfl | (simp [errW_none, errW_some] <;> rfl) | (simp [*, errW_none, errW_some] <;> rfl), Kd.RM HO_4.out (fun _ hk => hk.2), Kd.RM HO348.out (fun _ hk => hk.1.2), by repeat (first | (with_reducible first | exact HI0.out | apply IsS70.alloc | apply IsS70.drewN | apply IsS70.drew | apply IsS70.set_1) | exact HI0.out), by repeat (first | (with_reducible first | exact HB.out | apply below_alloc | apply pw_below_drewN | apply below_drew1 | refine below_set ?_ (IsS70.ge HI0.out)) | exact HB.out), by repeat (first | (with_reducible first | exact HK.out | apply KeepBut.set_ | apply keep_drewN | apply keep_drew | apply keep_alloc) | exact HK.out)⟩
      replace c11 := Bool.eq_false_iff.mpr c11; subst c11; replace H := ifF H; obtain ⟨⟨t350, t353⟩, A22, H⟩ := bnd H; replace H : (some (x4_3, t350, t353)) = some (r1, r2, r3) := H; simp only [Option.some.injEq, Prod.mk.injEq] at H; obtain ⟨rfl, rfl, rfl⟩ := H; obtain ⟨Ao23, co23, eo23⟩ := Kd.R_slice HO_4.out; subst eo23
      go_wp2_with (first | ((with_reducible refine gate_callee (f := 59) rfl ?_); refine goesK (some 15) Try.func59 #[.slice Ao23 x4_3.length co23] ?_; (with_reducible refine (spec_ZeroFind.calls kj3 _ _ x4_3 t340 false _ ?side1 ?side2 A10.out).mono ?_); (case side1 => exact U ((Kd.R_reads' HO_4.out).2.2)); (case side2 => exact (Kd.R_reads' HO_4.out).2.1); rintro e w24 ⟨v342, rfl, ho0, hb⟩; refine ⟨_, rfl, ?_⟩; have HO343 := Aside0.mk (Kd.R_lower (Kd.R_new' ho0 (Kd.R_lt (U HO_4.out))) (keep_size (w := w) (g := g) (row := none) KU)); replace HO_4 := Aside0.mk (Kd.R_elder' (U HO_4.out) (Kd.R_base ho0) hb); replace HK := Aside0.mk (KeepBut.trans KU (KeepBut.of_below hb g none) (.inl rfl)); replace HB := Aside0.mk (below_step (by repeat (first | (with_reducible first | exact HB.out | apply below_alloc | apply pw_below_drewN | apply below_drew1 | refine below_set ?_ (IsS70.ge HI0.out)) | exact HB.out)) hb); replace HI0 := Aside0.mk (IsS70.below (by repeat (first | (with_reducible first | exact HI0.out | apply IsS70.alloc | apply IsS70.drewN | apply IsS70.drew | apply IsS70.set_1) | exact HI0.out)) hb); (try clear hb); (try clear ho0)) | ((with_reducible refine gate_callee (f := 41) rfl ?_); refine goesK (some 29) Try.func41 #[.pointer (some ⟨g, 0, none⟩), .slice Ao23 x4_3.length co23, .int .i64 3] ?_; (with_reducible refine (spec_l91Vector.calls kj3 g s0_0 t336 _ _ x4_3 3 t350 t353 w0 _ ?side1 ?side2 ?side3 ?side4 ?side5 A22.out).mono ?_); (case side1 => repeat (first | (with_reducible first | exact HI0.out | apply IsS70.alloc | apply IsS70.drewN | apply IsS70.drew | apply IsS70.set_1) | exact HI0.out)); (case side2 => repeat (first | (with_reducible first | exact HB.out | apply below_alloc | apply pw_below_drewN | apply below_drew1 | refine below_set ?_ (IsS70.ge HI0.out)) | exact HB.out)); (case side3 => exact U ((Kd.R_reads' HO_4.out).2.2)); (case side4 => exact (Kd.R_reads' HO_4.out).2.1); (case side5 => exact far_slice (IsS70.own_ne HI0.out HO_4.out (by decide))); rintro e w25 ⟨v351, rfl, ho0, hi, hb, hk⟩; refine ⟨_, rfl, ?_⟩; have HO352 := Aside0.mk (Kd.R_lower (Kd.R_new' (Kd.R_new' ho0 (Kd.R_lt (U HO_4.out))) (Kd.R_lt (U HO343.out))) (keep_size (w := w) (g := g) (row := none) KU)); replace HO_4 := Aside0.mk (Kd.R_mono (Kd.R_told (Kd.R_oldK (IsS70.apart (show IsS70 w0 _ g s0_0 t336 from by repeat (first | (with_reducible first | exact HI0.out | apply IsS70.alloc | apply IsS70.drewN | apply IsS70.drew | apply IsS70.set_1) | exact HI0.out)) (U HO_4.out) (by decide)) hk) (Kd.R_base ho0)) (fun _ h_ => h_.1)); replace HO343 := Aside0.mk (Kd.R_mono (Kd.R_told (Kd.R_oldK (IsS70.apart (show IsS70 w0 _ g s0_0 t336 from by repeat (first | (with_reducible first | exact HI0.out | apply IsS70.alloc | apply IsS70.drewN | apply IsS70.drew | apply IsS70.set_1) | exact HI0.out)) (U HO343.out) (by decide)) hk) (Kd.R_base ho0)) (fun _ h_ => h_.1)); replace HK := Aside0.mk (KeepBut.trans KU hk (.inl rfl)); replace HB := Aside0.mk (hb); replace HI0 := Aside0.mk (hi); (try clear hb); (try clear hk); (try clear hi); (try clear ho0)))
      go_ret2
      exact ⟨_, _, by first | rfl | (simp [errW_none, errW_some] <;> rfl) | (simp [*, errW_none, errW_some] <;> rfl), Kd.RM HO_4.out (fun _ hk => hk.2), Kd.RM HO352.out (fun _ hk => hk.1.2), by repeat (first | (with_reducible first | exact HI0.out | apply IsS70.alloc | apply IsS70.drewN | apply IsS70.drew | apply IsS70.set_1) | exact HI0.out), by repeat (first | (with_reducible first | exact HB.out | apply below_alloc | apply pw_below_drewN | apply below_drew1 | refine below_set ?_ (IsS70.ge HI0.out)) | exact HB.out), by repeat (first | (with_reducible first | exact HK.out | apply KeepBut.set_ | apply keep_drewN | apply keep_drew | apply keep_alloc) | exact HK.out)⟩

/-! ### spec_l6Open: function 29 -/
def spec_l6Open.f (l0 : List Int) : Option (List Int × Int) := if (l0.length : Int) > 2000 then (if 2000 ≤ (l0.length : Int) then (some (l0.take 2000, 0)) else (none)) else (some (l0, 0))
set_option maxHeartbeats 8000000 in
set_option maxRecDepth 100000 in
theorem spec_l6Open.calls (A0 : Option Addr) (c0 : Nat) (l0 : List Int) (r1 : List Int) (r2 : Int) (w0 w : World) (hB : Below w0.heap.size w0 w) (hr0 : Kd.C (Kd.int .u8) w0 A0 l0.length l0) (hc0 : l0.length ≤ c0) (h : spec_l6Open.f l0 = some (r1, r2)) :
    Calls Try.prog 29 #[.slice A0 l0.length c0] w fun e w' => ∃ g_ : Nat, e = .returned (.pointer (some ⟨g_, 0, none⟩)) ∧ IsS70 w0 w' g_ r1 r2 ∧ Below w0.heap.size w0 w' ∧ Below w.heap.size w w' := by
  have hu70 := Try.underlying70; have HR0 := Aside0.mk hr0; have HC0 := Aside0.mk hc0; clear hr0 hc0; have HBW := Aside0.mk (Below.refl w.heap.size w); have HW0 := Aside0.mk hB.size; have HB := Aside0.mk hB; clear hB; unfold spec_l6Open.f at h; have H := h; clear h
  by_cases c2 : (l0.length : Int) > 2000
  · rw [if_pos c2] at H
    have c2b0 : decide (2000 < (l0.length : Int)) = true := decide_eq_true c2; have c2b1 : decide (2000 < l0.length) = true := decide_eq_true (by omega); clear c2; obtain ⟨c3, H⟩ := ifN H; have c3b0 := eq_true c3; have c3b1 : decide (2000 ≤ (l0.length : Int)) = true := decide_eq_true c3; clear c3; simp only [Option.some.injEq, Prod.mk.injEq] at H; obtain ⟨rfl, rfl⟩ := H; obtain ⟨i04, hi04, _, hsz4, _⟩ := info_parts info5; obtain ⟨hcut4, hA4, hC4⟩ := print_take_of (P := Try.prog) (Value.int .u8) 0 22 5 .i64 Try.underlying22 hi04 hsz4 A0 c0 l0 2000 (by omega) (oD) HC0.out; have HR354 := Aside0.mk (Kd.C_of_reads (h1 := fun _ => rfl) (hA4 _ (Kd.reads_of_C HR0.out))); have HC354 := Aside0.mk hC4; clear hA4 hC4 hi04 hsz4; go_enter Try.func29, Try.ntmps29
    go_wp2_with (first | ((with_reducible refine gate_dst (N := 10) rfl ?_); refine boxE (N := 10) (cs := #[.slice A0 (l0.take 2000).length c0, .int .i64 0]) (t := 70) ?_; intro gb355 hg w5 hbox hb; replace HB := BS hb; have BK355 := Aside0.mk (hbox); have GW355 := Aside0.mk ((by rw [hg]; exact (below_size (by repeat (first | (with_reducible first | exact HBW.out | apply below_alloc | apply pw_below_drewN | apply below_drew1) | exact HBW.out))) : w.heap.size ≤ gb355)); have GE355 := Aside0.mk ((Nat.le_trans HW0.out (by rw [hg]; exact (below_size (by repeat (first | (with_reducible first | exact HBW.out | apply below_alloc | apply pw_below_drewN | apply below_drew1) | exact HBW.out))) : w.heap.size ≤ gb355) : w0.heap.size ≤ gb355)); replace HBW := Aside0.mk (below_step HBW.out hb); clear hb hbox hg))
    go_ret
    exact ⟨_, rfl, (show IsS70 w0 _ gb355 (l0.take 2000) 0 from ⟨_, _, U BK355.out, GE355.out, HR354.out⟩), BU, by repeat (first | (with_reducible first | exact HBW.out | apply below_alloc | apply pw_below_drewN | apply below_drew1 | refine below_set ?_ GW355.out) | exact HBW.out)⟩
  rw [if_neg c2] at H; have c2b0 : decide (2000 < (l0.length : Int)) = false := decide_eq_false c2; have c2b1 : decide (2000 < l0.length) = false := decide_eq_false (by omega); clear c2; simp only [Option.some.injEq, Prod.mk.injEq] at H; obtain ⟨rfl, rfl⟩ := H; go_enter Try.func29, Try.ntmps29
  go_wp2_with (first | ((with_reducible refine gate_dst (N := 10) rfl ?_); refine boxE (N := 10) (cs := #[.slice A0 l0.length c0, .int .i64 0]) (t := 70) ?_; intro gb356 hg w6 hbox hb; replace HB := BS hb; have BK356 := Aside0.mk (hbox); have GW356 := Aside0.mk ((by rw [hg]; exact (below_size (by repeat (first | (with_reducible first | exact HBW.out | apply below_alloc | apply pw_below_drewN | apply below_drew1) | exact HBW.out))) : w.heap.size ≤ gb356)); have GE356 := Aside0.mk ((Nat.le_trans HW0.out (by rw [hg]; exact (below_size (by repeat (first | (with_reducible first | exact HBW.out | apply below_alloc | apply pw_below_drewN | apply below_drew1) | exact HBW.out))) : w.heap.size ≤ gb356) : w0.heap.size ≤ gb356)); replace HBW := Aside0.mk (below_step HBW.out hb); clear hb hbox hg))
  go_ret
  exact ⟨_, rfl, (show IsS70 w0 _ gb356 l0 0 from ⟨_, _, U BK356.out, GE356.out, HR0.out⟩), BU, by repeat (first | (with_reducible first | exact HBW.out | apply below_alloc | apply pw_below_drewN | apply below_drew1 | refine below_set ?_ GW356.out) | exact HBW.out)⟩

/-! ### spec_DrawConicPoint: function 8 -/
def spec_DrawConicPoint.f (k : Nat) (l0 : List Int) : Option (List Int × List Int) := (spec_l6Open.f l0).bind fun bt357 => ((spec_l92Point.f k bt357.1 bt357.2).bind fun bt360 => (some (bt360.1, bt360.2.1)))
theorem spec_DrawConicPoint.mono : ∀ a0 k, LeO (spec_DrawConicPoint.f k a0) (spec_DrawConicPoint.f (k + 1) a0) := by
  intro a0 k
  unfold spec_DrawConicPoint.f
  repeat' first
      | (with_reducible exact spec_l92Point.mono _ _ _)
      | (with_reducible exact LeO.refl _)
      | (with_reducible exact LeO.none _)
      | (with_reducible refine LeO.ite ?_ ?_)
      | (with_reducible refine LeO.bind ?_ (fun _ => ?_))
      | exact spec_l92Point.mono _ _ _
      | exact LeO.none _
      | refine LeO.ite ?_ ?_
      | refine LeO.bind ?_ (fun _ => ?_)
set_option maxHeartbeats 8000000 in
set_option maxRecDepth 100000 in
theorem spec_DrawConicPoint.calls (k : Nat) (A0 : Option Addr) (c0 : Nat) (l0 : List Int) (r1 : List Int) (r2 : List Int) (w : World) (hr0 : Kd.C (Kd.int .u8) w A0 l0.length l0) (hc0 : l0.length ≤ c0) (h : spec_DrawConicPoint.f k l0 = some (r1, r2)) :
    Calls Try.prog 8 #[.slice A0 l0.length c0] w fun e w' => ∃ v0_ v1_ : Value, e = .returned (.tuple #[v0_, v1_]) ∧ Kd.R (Kd.int .i64) 3 w' w.heap.size (fun k_ => some k_ ≠ (v1_ : Value).ownBlock) v0_ r1 ∧ Kd.R (Kd.int .i64) 3 w' w.heap.size (fun k_ => some k_ ≠ (v0_ : Value).ownBlock) v1_ r2 ∧ Below w.heap.size w w' := by
  have HR0 := Aside0.mk hr0; have HC0 := Aside0.mk hc0; clear hr0 hc0; have HB := Aside0.mk (Below.refl w.heap.size w); unfold spec_DrawConicPoint.f at h; have H := h; clear h; obtain ⟨⟨t357, t358⟩, A2, H⟩ := bnd H; replace H : ((spec_l92Point.f k t357 t358).bind fun bt360 => (some (bt360.1, bt360.2.1))) = some (r1, r2) := H; obtain ⟨⟨t360, t363, t366⟩, A3, H⟩ := bnd H; replace H : (some (t360, t363)) = some (r1, r2) := H; simp only [Option.some.injEq, Prod.mk.injEq] at H; obtain ⟨rfl, rfl⟩ := H; go_enter Try.func8, Try.ntmps8
  go_wp2_with (first | ((with_reducible refine gate_callee (f := 29) rfl ?_); refine goesK (some 5) Try.func29 #[.slice A0 l0.length c0] ?_; (with_reducible refine (spec_l6Open.calls _ _ l0 t357 t358 w _ ?side1 ?side2 ?side3 A2.out).mono ?_); (case side1 => repeat (first | (with_reducible first | exact HB.out | apply below_alloc | apply pw_below_drewN | apply below_drew1) | exact HB.out | exact Below.refl _ _)); (case side2 => exact HR0.out); (case side3 => exact HC0.out); rintro e w4 ⟨g359, rfl, hi, hb, hb2⟩; refine ⟨_, rfl, ?_⟩; replace HB := Aside0.mk (hb); have HI359 := Aside0.mk (hi); (try clear hb); (try clear hb2); (try clear hi)) | ((with_reducible refine gate_callee (f := 28) rfl ?_); refine goesK (some 6) Try.func28 #[.pointer (some ⟨g359, 0, none⟩)] ?_; (with_reducible refine (spec_l92Point.calls k g359 t357 t358 t360 t363 t366 w _ ?side1 ?side2 A3.out).mono ?_); (case side1 => repeat (first | (with_reducible first | exact HI359.out | apply IsS70.alloc | apply IsS70.drewN | apply IsS70.drew | apply IsS70.set_1) | exact HI359.out)); (case side2 => repeat (first | (with_reducible first | exact HB.out | apply below_alloc | apply pw_below_drewN | apply below_drew1 | refine below_set ?_ (IsS70.ge HI359.out)) | exact HB.out)); rintro e w5 ⟨v361, v364, rfl, ho0, ho1, hi, hb, hk⟩; refine ⟨_, rfl, ?_⟩; have HO362 := Aside0.mk (Kd.R_lower ho0 (below_size (by repeat (first | (with_reducible first | exact HB.out | apply below_alloc | apply pw_below_drewN | apply below_drew1 | refine below_set ?_ (IsS70.ge HI359.out)) | exact HB.out)))); have HO365 := Aside0.mk (Kd.R_lower ho1 (below_size (by repeat (first | (with_reducible first | exact HB.out | apply below_alloc | apply pw_below_drewN | apply below_drew1 | refine below_set ?_ (IsS70.ge HI359.out)) | exact HB.out)))); replace HB := Aside0.mk (hb); replace HI359 := Aside0.mk (hi); (try clear hb); (try clear hk); (try clear hi); (try clear ho0); (try clear ho1)))
  go_ret2
  exact ⟨_, _, by first | rfl | (simp [errW_none, errW_some] <;> rfl) | (simp [*, errW_none, errW_some] <;> rfl), U HO362.out, U HO365.out, by repeat (first | (with_reducible first | exact HB.out | apply below_alloc | apply pw_below_drewN | apply below_drew1 | refine below_set ?_ (IsS70.ge HI359.out)) | exact HB.out)⟩

/-! ### impl_vectorOk: function 30 -/
def impl_vectorOk.l0 : Nat → List Int → List Int → Int → List Int → Int → Int → Option (Bool)
  | 0, _, _, _, _, _, _ => none
  | k + 1, x0, x1, x2, x9, x10, x11 => if x11 < x10 then (if 0 ≤ x11 then (if x11 < (x9.length : Int) then (if (rd x9 x11) < (wrap64 (-x2)) then (some false) else (if (rd x9 x11) > x2 then (some false) else (impl_vectorOk.l0 k x0 x1 x2 x9 x10 (wrap64 (x11 + 1))))) else (none)) else (none)) else (some ((x1.length : Int) == (x0.length : Int)))
def impl_vectorOk.f (k : Nat) (l0 : List Int) (l1 : List Int) (a2 : Int) : Option (Bool) := impl_vectorOk.l0 k l0 l1 a2 l1 (l1.length : Int) 0
theorem impl_vectorOk.mono_l : ∀ k, (∀ y0 y1 y2 y3 y4 y5, LeO (impl_vectorOk.l0 k y0 y1 y2 y3 y4 y5) (impl_vectorOk.l0 (k + 1) y0 y1 y2 y3 y4 y5))
  | 0 => fun _ _ _ _ _ _ r h => by simp [impl_vectorOk.l0] at h
  | k + 1 => by
    have ih0 := impl_vectorOk.mono_l k
    · intro y0 y1 y2 y3 y4 y5
      unfold impl_vectorOk.l0
      repeat' first
      | (with_reducible exact ih0 _ _ _ _ _ _)
      | (with_reducible exact LeO.refl _)
      | (with_reducible exact LeO.none _)
      | (with_reducible refine LeO.ite ?_ ?_)
      | (with_reducible refine LeO.bind ?_ (fun _ => ?_))
      | exact ih0 _ _ _ _ _ _
      | exact LeO.none _
      | refine LeO.ite ?_ ?_
      | refine LeO.bind ?_ (fun _ => ?_)
theorem impl_vectorOk.mono : ∀ a0 a1 a2 k, LeO (impl_vectorOk.f k a0 a1 a2) (impl_vectorOk.f (k + 1) a0 a1 a2) := by
  intro a0 a1 a2 k
  have ih0 := impl_vectorOk.mono_l k
  unfold impl_vectorOk.f
  repeat' first
      | (with_reducible exact ih0 _ _ _ _ _ _)
      | (with_reducible exact LeO.refl _)
      | (with_reducible exact LeO.none _)
      | (with_reducible refine LeO.ite ?_ ?_)
      | (with_reducible refine LeO.bind ?_ (fun _ => ?_))
      | exact ih0 _ _ _ _ _ _
      | exact LeO.none _
      | refine LeO.ite ?_ ?_
      | refine LeO.bind ?_ (fun _ => ?_)
set_option maxHeartbeats 8000000 in
set_option maxRecDepth 100000 in
theorem impl_vectorOk.calls (k : Nat) (A0 : Option Addr) (c0 : Nat) (l0 : List Int) (A1 : Option Addr) (c1 : Nat) (l1 : List Int) (a2 : Int) (r : Bool) (w : World) (hr0 : Kd.C (Kd.int .i64) w A0 l0.length l0) (hc0 : l0.length ≤ c0) (hr1 : Kd.C (Kd.int .i64) w A1 l1.length l1) (hc1 : l1.length ≤ c1) (h : impl_vectorOk.f k l0 l1 a2 = some r) :
    Calls Try.prog 30 #[.slice A0 l0.length c0, .slice A1 l1.length c1, .int .i64 a2] w fun e w' => e = .returned (.bool r) ∧ Drawn0 w w' := by
  have HR0 := Aside0.mk hr0; have HC0 := Aside0.mk hc0; clear hr0 hc0; have HR1 := Aside0.mk hr1; have HC1 := Aside0.mk hc1; clear hr1 hc1; unfold impl_vectorOk.f at h; have H := h; clear h; have H' := Aside0.mk H; clear H; go_enter Try.func30, Try.ntmps30
  go_wp2
  go_loopg [11] k (fun kq v11 w' => ∃ (x11_1 : Int), v11 = .int .i64 x11_1 ∧ Aside0 (impl_vectorOk.l0 kq l0 l1 a2 l1 (l1.length : Int) x11_1 = some r) ∧ Aside0 (kq ≤ k) ∧ Drawn0 w w')
  case atStart => exact ⟨(0), sR, H', ⟨Nat.le_refl _⟩, by repeat (first | exact Drawn0.refl _ | apply Drawn0.step)⟩
  case round =>
    clear H'; obtain ⟨x11_1, rfl, HA, HK1, ⟨m1, rfl⟩⟩ := hrel; cases gk with
    | zero => exact absurd HA.out (by simp [impl_vectorOk.l0])
    | succ k1 =>
      have H := HA.out; clear HA; simp only [impl_vectorOk.l0] at H
      by_cases c4 : x11_1 < (l1.length : Int)
      · rw [if_pos c4] at H
        have c4b0 : decide (x11_1 < (l1.length : Int)) = true := decide_eq_true c4; clear c4; obtain ⟨c5, H⟩ := ifN H; have c5b0 : decide (0 ≤ x11_1) = true := decide_eq_true c5; clear c5; obtain ⟨c6, H⟩ := ifN H; have c6b0 : decide (x11_1 < (l1.length : Int)) = true := decide_eq_true c6; clear c6
        by_cases c7 : (rd l1 x11_1) < (wrap64 (-a2))
        · rw [if_pos c7] at H
          have c7b0 : decide ((rd l1 x11_1) < (wrap64 (-a2))) = true := decide_eq_true c7; clear c7; obtain rfl := Option.some.inj H; have p367 : 0 ≤ (x11_1 : Int) := oD; have q367 : x11_1 < (l1.length : Int) := oD; obtain ⟨ad367, e367, hx367_0⟩ := Kd.at_int HR1.out x11_1 p367 q367; cases e367; replace p367 := eq_true p367; replace q367 := eq_true q367
          go_wp2
          go_ret
          exact ⟨by first | rfl | (simp; done) | (simp [*]; done), by repeat (first | exact Drawn0.refl _ | apply Drawn0.step)⟩
        rw [if_neg c7] at H; have c7b0 : decide ((rd l1 x11_1) < (wrap64 (-a2))) = false := decide_eq_false c7; clear c7
        by_cases c8 : (rd l1 x11_1) > a2
        · rw [if_pos c8] at H
          have c8b0 : decide (a2 < (rd l1 x11_1)) = true := decide_eq_true c8; clear c8; obtain rfl := Option.some.inj H; have p367 : 0 ≤ (x11_1 : Int) := oD; have q367 : x11_1 < (l1.length : Int) := oD; obtain ⟨ad367, e367, hx367_0⟩ := Kd.at_int HR1.out x11_1 p367 q367; cases e367; replace p367 := eq_true p367; replace q367 := eq_true q367
          go_wp2
          go_ret
          exact ⟨by first | rfl | (simp; done) | (simp [*]; done), by repeat (first | exact Drawn0.refl _ | apply Drawn0.step)⟩
        rw [if_neg c8] at H; have c8b0 : decide (a2 < (rd l1 x11_1)) = false := decide_eq_false c8; clear c8; have H' := Aside0.mk H; clear H; have p367 : 0 ≤ (x11_1 : Int) := oD; have q367 : x11_1 < (l1.length : Int) := oD; obtain ⟨ad367, e367, hx367_0⟩ := Kd.at_int HR1.out x11_1 p367 q367; cases e367; replace p367 := eq_true p367; replace q367 := eq_true q367
        go_wp2
        go_roundg k1
        case measure => have := HK1.out; omega
        case rel => exact ⟨(wrap64 (x11_1 + 1)), sR, H', ⟨by have := HK1.out; omega⟩, by repeat (first | exact Drawn0.refl _ | apply Drawn0.step)⟩
      rw [if_neg c4] at H; have c4b0 : decide (x11_1 < (l1.length : Int)) = false := decide_eq_false c4; clear c4; obtain rfl := Option.some.inj H
      go_wp2
      go_ret
      exact ⟨by first | rfl | (simp; done) | (simp [*]; done), by repeat (first | exact Drawn0.refl _ | apply Drawn0.step)⟩

/-! ### impl_pair: function 43 -/
def impl_pair.l0 : Nat → List Int → List Int → Int → List Int → Int → Int → Option (Int)
  | 0, _, _, _, _, _, _ => none
  | k + 1, x1, x2, x7, x10, x11, x12 => if x12 < x11 then (if 0 ≤ x12 then (if x12 < (x10.length : Int) then (if x12 < (x1.length : Int) then (if x12 < (x2.length : Int) then (impl_pair.l0 k x1 x2 (wrap64 (x7 + (wrap64 ((wrap64 ((rd x10 x12) * (rd x1 x12))) * (rd x2 x12))))) x10 x11 (wrap64 (x12 + 1))) else (none)) else (none)) else (none)) else (none)) else (some x7)
def impl_pair.f (k : Nat) (l0 : List Int) (l1 : List Int) (l2 : List Int) : Option (Int) := impl_pair.l0 k l1 l2 0 l0 (l0.length : Int) 0
theorem impl_pair.mono_l : ∀ k, (∀ y0 y1 y2 y3 y4 y5, LeO (impl_pair.l0 k y0 y1 y2 y3 y4 y5) (impl_pair.l0 (k + 1) y0 y1 y2 y3 y4 y5))
  | 0 => fun _ _ _ _ _ _ r h => by simp [impl_pair.l0] at h
  | k + 1 => by
    have ih0 := impl_pair.mono_l k
    · intro y0 y1 y2 y3 y4 y5
      unfold impl_pair.l0
      repeat' first
      | (with_reducible exact ih0 _ _ _ _ _ _)
      | (with_reducible exact LeO.refl _)
      | (with_reducible exact LeO.none _)
      | (with_reducible refine LeO.ite ?_ ?_)
      | (with_reducible refine LeO.bind ?_ (fun _ => ?_))
      | exact ih0 _ _ _ _ _ _
      | exact LeO.none _
      | refine LeO.ite ?_ ?_
      | refine LeO.bind ?_ (fun _ => ?_)
theorem impl_pair.mono : ∀ a0 a1 a2 k, LeO (impl_pair.f k a0 a1 a2) (impl_pair.f (k + 1) a0 a1 a2) := by
  intro a0 a1 a2 k
  have ih0 := impl_pair.mono_l k
  unfold impl_pair.f
  repeat' first
      | (with_reducible exact ih0 _ _ _ _ _ _)
      | (with_reducible exact LeO.refl _)
      | (with_reducible exact LeO.none _)
      | (with_reducible refine LeO.ite ?_ ?_)
      | (with_reducible refine LeO.bind ?_ (fun _ => ?_))
      | exact ih0 _ _ _ _ _ _
      | exact LeO.none _
      | refine LeO.ite ?_ ?_
      | refine LeO.bind ?_ (fun _ => ?_)
set_option maxHeartbeats 8000000 in
set_option maxRecDepth 100000 in
theorem impl_pair.calls (k : Nat) (A0 : Option Addr) (c0 : Nat) (l0 : List Int) (A1 : Option Addr) (c1 : Nat) (l1 : List Int) (A2 : Option Addr) (c2 : Nat) (l2 : List Int) (r : Int) (w : World) (hr0 : Kd.C (Kd.int .i64) w A0 l0.length l0) (hc0 : l0.length ≤ c0) (hr1 : Kd.C (Kd.int .i64) w A1 l1.length l1) (hc1 : l1.length ≤ c1) (hr2 : Kd.C (Kd.int .i64) w A2 l2.length l2) (hc2 : l2.length ≤ c2) (h : impl_pair.f k l0 l1 l2 = some r) :
    Calls Try.prog 43 #[.slice A0 l0.length c0, .slice A1 l1.length c1, .slice A2 l2.length c2] w fun e w' => e = .returned (.int .i64 r) ∧ Drawn0 w w' := by
  have HR0 := Aside0.mk hr0; have HC0 := Aside0.mk hc0; clear hr0 hc0; have HR1 := Aside0.mk hr1; have HC1 := Aside0.mk hc1; clear hr1 hc1; have HR2 := Aside0.mk hr2; have HC2 := Aside0.mk hc2; clear hr2 hc2; unfold impl_pair.f at h; have H := h; clear h; have H' := Aside0.mk H; clear H; go_enter Try.func43, Try.ntmps43
  go_wp2
  repeat (go_quiet (fail); try go_wp2)
  go_loopg [7, 12] k (fun kq v7 v12 w' => ∃ (x7_1 : Int) (x12_1 : Int), v7 = .int .i64 x7_1 ∧ v12 = .int .i64 x12_1 ∧ Aside0 (impl_pair.l0 kq l1 l2 x7_1 l0 (l0.length : Int) x12_1 = some r) ∧ Aside0 (kq ≤ k) ∧ Drawn0 w w')
  case atStart => exact ⟨(0), (0), sR, sR, H', ⟨Nat.le_refl _⟩, by repeat (first | exact Drawn0.refl _ | apply Drawn0.step)⟩
  case round =>
    clear H'; obtain ⟨x7_1, x12_1, rfl, rfl, HA, HK1, ⟨m1, rfl⟩⟩ := hrel; cases gk with
    | zero => exact absurd HA.out (by simp [impl_pair.l0])
    | succ k1 =>
      have H := HA.out; clear HA; simp only [impl_pair.l0] at H
      by_cases c4 : x12_1 < (l0.length : Int)
      · rw [if_pos c4] at H
        have c4b0 : decide (x12_1 < (l0.length : Int)) = true := decide_eq_true c4; clear c4; obtain ⟨c5, H⟩ := ifN H; have c5b0 : decide (0 ≤ x12_1) = true := decide_eq_true c5; clear c5; obtain ⟨c6, H⟩ := ifN H; have c6b0 : decide (x12_1 < (l0.length : Int)) = true := decide_eq_true c6; clear c6; obtain ⟨c7, H⟩ := ifN H; have c7b0 : decide (x12_1 < (l1.length : Int)) = true := decide_eq_true c7; clear c7; obtain ⟨c8, H⟩ := ifN H; have c8b0 : decide (x12_1 < (l2.length : Int)) = true := decide_eq_true c8; clear c8; have H' := Aside0.mk H; clear H; have p368 : 0 ≤ (x12_1 : Int) := oD; have q368 : x12_1 < (l0.length : Int) := oD; obtain ⟨ad368, e368, hx368_0⟩ := Kd.at_int HR0.out x12_1 p368 q368; cases e368; replace p368 := eq_true p368; replace q368 := eq_true q368; have p369 : 0 ≤ (x12_1 : Int) := oD; have q369 : x12_1 < (l1.length : Int) := oD; obtain ⟨ad369, e369, hx369_0⟩ := Kd.at_int HR1.out x12_1 p369 q369; cases e369; replace p369 := eq_true p369; replace q369 := eq_true q369; have p370 : 0 ≤ (x12_1 : Int) := oD; have q370 : x12_1 < (l2.length : Int) := oD; obtain ⟨ad370, e370, hx370_0⟩ := Kd.at_int HR2.out x12_1 p370 q370; cases e370; replace p370 := eq_true p370; replace q370 := eq_true q370
        go_wp2
        repeat (go_quiet (fail); try go_wp2)
        go_roundg k1
        case measure => have := HK1.out; omega
        case rel => exact ⟨(wrap64 (x7_1 + (wrap64 ((wrap64 ((rd l0 x12_1) * (rd l1 x12_1))) * (rd l2 x12_1))))), (wrap64 (x12_1 + 1)), sR, sR, H', ⟨by have := HK1.out; omega⟩, by repeat (first | exact Drawn0.refl _ | apply Drawn0.step)⟩
      rw [if_neg c4] at H; have c4b0 : decide (x12_1 < (l0.length : Int)) = false := decide_eq_false c4; clear c4; obtain rfl := Option.some.inj H
      go_wp2
      repeat (go_quiet (fail); try go_wp2)
      go_ret
      exact ⟨by first | rfl | (simp; done) | (simp [*]; done), by repeat (first | exact Drawn0.refl _ | apply Drawn0.step)⟩

/-! ### impl_size: function 39 -/
def impl_size.f (a0 : Int) : Option (Int) := some (mx a0 (wrap64 (-a0)))
set_option maxHeartbeats 8000000 in
set_option maxRecDepth 100000 in
theorem impl_size.calls (a0 : Int) (r : Int) (w : World) (h : impl_size.f a0 = some r) :
    Calls Try.prog 39 #[.int .i64 a0] w fun e w' => e = .returned (.int .i64 r) ∧ Below w.heap.size w w' := by
  have HB := Aside0.mk (Below.refl w.heap.size w); unfold impl_size.f at h; have H := h; clear h; obtain ⟨ji2, hji2⟩ : ∃ j_ : Int, (mx a0 (wrap64 (-a0))) = j_ := ⟨_, rfl⟩
  replace H : (some ji2) = some r := by first | (rw [hji2] at H; exact H) | (simp only [hji2] at H ⊢; exact H)
  have hji2_ : (if a0 < (wrap64 (-a0)) then (wrap64 (-a0)) else a0) = ji2 := hji2; obtain rfl := Option.some.inj H; go_enter Try.func39, Try.ntmps39
  go_wp2
  go_ret
  exact ⟨by first | rfl | (simp [errW_none, errW_some] <;> rfl) | (simp only [← hji2]; first | rfl | (simp [errW_none, errW_some] <;> rfl)) | (simp [*, errW_none, errW_some] <;> rfl), BU⟩

/-! ### impl_gcd: function 52 -/
mutual
def impl_gcd.l0 : Nat → Int → List Int → Int → Int → Option (Int)
  | 0, _, _, _, _ => none
  | k + 1, x3, x6, x7, x8 => if x8 < x7 then (if 0 ≤ x8 then (if x8 < (x6.length : Int) then ((impl_size.f (rd x6 x8)).bind fun t372 => (impl_gcd.l1 k x3 t372 x6 x7 x8)) else (none)) else (none)) else (some x3)
def impl_gcd.l1 : Nat → Int → Int → List Int → Int → Int → Option (Int)
  | 0, _, _, _, _, _ => none
  | k + 1, x3, x5, x6, x7, x8 => if x5 = 0 then (impl_gcd.l0 k x3 x6 x7 (wrap64 (x8 + 1))) else (impl_gcd.l1 k x5 (Int.tmod x3 x5) x6 x7 x8)
end
def impl_gcd.f (k : Nat) (l0 : List Int) : Option (Int) := impl_gcd.l0 k 0 l0 (l0.length : Int) 0
theorem impl_gcd.mono_l : ∀ k, (∀ y0 y1 y2 y3, LeO (impl_gcd.l0 k y0 y1 y2 y3) (impl_gcd.l0 (k + 1) y0 y1 y2 y3)) ∧ (∀ y0 y1 y2 y3 y4, LeO (impl_gcd.l1 k y0 y1 y2 y3 y4) (impl_gcd.l1 (k + 1) y0 y1 y2 y3 y4))
  | 0 => ⟨fun _ _ _ _ r h => by simp [impl_gcd.l0] at h, fun _ _ _ _ _ r h => by simp [impl_gcd.l1] at h⟩
  | k + 1 => by
    obtain ⟨ih0, ih1⟩ := impl_gcd.mono_l k
    refine ⟨?_, ?_⟩ <;> intros <;> (first | unfold impl_gcd.l0 | unfold impl_gcd.l1) <;> (repeat' first
      | (with_reducible exact ih0 _ _ _ _)
      | (with_reducible exact ih1 _ _ _ _ _)
      | (with_reducible exact LeO.refl _)
      | (with_reducible exact LeO.none _)
      | (with_reducible refine LeO.ite ?_ ?_)
      | (with_reducible refine LeO.bind ?_ (fun _ => ?_))
      | exact ih0 _ _ _ _
      | exact ih1 _ _ _ _ _
      | exact LeO.none _
      | refine LeO.ite ?_ ?_
      | refine LeO.bind ?_ (fun _ => ?_))
theorem impl_gcd.mono : ∀ a0 k, LeO (impl_gcd.f k a0) (impl_gcd.f (k + 1) a0) := by
  intro a0 k
  obtain ⟨ih0, ih1⟩ := impl_gcd.mono_l k
  unfold impl_gcd.f
  repeat' first
      | (with_reducible exact ih0 _ _ _ _)
      | (with_reducible exact ih1 _ _ _ _ _)
      | (with_reducible exact LeO.refl _)
      | (with_reducible exact LeO.none _)
      | (with_reducible refine LeO.ite ?_ ?_)
      | (with_reducible refine LeO.bind ?_ (fun _ => ?_))
      | exact ih0 _ _ _ _
      | exact ih1 _ _ _ _ _
      | exact LeO.none _
      | refine LeO.ite ?_ ?_
      | refine LeO.bind ?_ (fun _ => ?_)
set_option maxHeartbeats 8000000 in
set_option maxRecDepth 100000 in
theorem impl_gcd.calls (k : Nat) (A0 : Option Addr) (c0 : Nat) (l0 : List Int) (r : Int) (w : World) (hr0 : Kd.C (Kd.int .i64) w A0 l0.length l0) (hc0 : l0.length ≤ c0) (h : impl_gcd.f k l0 = some r) :
    Calls Try.prog 52 #[.slice A0 l0.length c0] w fun e w' => e = .returned (.int .i64 r) ∧ Below w.heap.size w w' := by
  have HR0 := Aside0.mk hr0; have HC0 := Aside0.mk hc0; clear hr0 hc0; have HB := Aside0.mk (Below.refl w.heap.size w); unfold impl_gcd.f at h; have H := h; clear h; have H' := Aside0.mk H; clear H; go_enter Try.func52, Try.ntmps52
  go_wp2
  repeat (go_quiet (fail); try go_wp2)
  go_loopg [3, 8] k (fun kq v3 v8 w' => ∃ (x3_1 : Int) (x8_1 : Int), v3 = .int .i64 x3_1 ∧ v8 = .int .i64 x8_1 ∧ Aside0 (impl_gcd.l0 kq x3_1 l0 (l0.length : Int) x8_1 = some r) ∧ Aside0 (kq ≤ k) ∧ Aside0 (Below w.heap.size w w'))
  case atStart => exact ⟨(0), (0), sR, sR, H', ⟨Nat.le_refl _⟩, ⟨BU⟩⟩
  case round =>
    clear H'; obtain ⟨x3_1, x8_1, rfl, rfl, HA, HK1, HB⟩ := hrel; cases gk with
    | zero => exact absurd HA.out (by simp [impl_gcd.l0])
    | succ k1 =>
      have H := HA.out; clear HA; simp only [impl_gcd.l0] at H
      by_cases c2 : x8_1 < (l0.length : Int)
      · rw [if_pos c2] at H
        have c2b0 : decide (x8_1 < (l0.length : Int)) = true := decide_eq_true c2; clear c2; obtain ⟨c3, H⟩ := ifN H; have c3b0 : decide (0 ≤ x8_1) = true := decide_eq_true c3; clear c3; obtain ⟨c4, H⟩ := ifN H; have c4b0 : decide (x8_1 < (l0.length : Int)) = true := decide_eq_true c4; clear c4; obtain ⟨t372, A5, H⟩ := bnd H; have H' := Aside0.mk H; clear H; have p371 : 0 ≤ (x8_1 : Int) := oD; have q371 : x8_1 < (l0.length : Int) := oD; obtain ⟨ad371, e371, hx371_0⟩ := Kd.at_int HR0.out x8_1 p371 q371; cases e371; replace hx371_0 := (HB.out.cell (World.block_lt_of_cell? w _ hx371_0)).trans hx371_0; replace p371 := eq_true p371; replace q371 := eq_true q371
        go_wp2_with (first | (go_at_call 39; (with_reducible refine (impl_size.calls (rd l0 x8_1) t372 _ A5.out).mono ?_); rintro e w6 ⟨rfl, hb⟩; replace HB := BS hb; (try clear hb)))
        repeat (go_quiet (first | (go_at_call 39; (with_reducible refine (impl_size.calls (rd l0 x8_1) t372 _ A5.out).mono ?_); rintro e w6 ⟨rfl, hb⟩; replace HB := BS hb; (try clear hb))); try go_wp2_with (first | (go_at_call 39; (with_reducible refine (impl_size.calls (rd l0 x8_1) t372 _ A5.out).mono ?_); rintro e w6 ⟨rfl, hb⟩; replace HB := BS hb; (try clear hb))))
        go_loopg [3, 5] k1 (fun kq v3 v5 w' => ∃ (x3_2 : Int) (x5_2 : Int), v3 = .int .i64 x3_2 ∧ v5 = .int .i64 x5_2 ∧ Aside0 (impl_gcd.l1 kq x3_2 x5_2 l0 (l0.length : Int) x8_1 = some r) ∧ Aside0 (kq ≤ k1) ∧ Aside0 (Below w.heap.size w w'))
        case atStart => exact ⟨(x3_1), (t372), sR, sR, H', ⟨Nat.le_refl _⟩, ⟨BU⟩⟩
        case round =>
          clear H'; (try clear c2); (try clear c2b0); (try clear c3); (try clear c3b0); (try clear c4); (try clear c4b0); (try clear hx371_0); (try clear p371); (try clear q371); obtain ⟨x3_2, x5_2, rfl, rfl, HA, HK2, HB⟩ := hrel; cases gk with
          | zero => exact absurd HA.out (by simp [impl_gcd.l1])
          | succ k2 =>
            have H := HA.out; clear HA; simp only [impl_gcd.l1] at H
            by_cases c7 : x5_2 = 0
            · rw [if_pos c7] at H
              have c7b0 : (x5_2 == 0) = true := beq_iff_eq.mpr c7; have c7b1 : (x5_2 != 0) = false := bne_eq_false_iff_eq.mpr c7; clear c7; have H' := Aside0.mk H; clear H
              go_wp2
              repeat (go_quiet (fail); try go_wp2)
              go_roundg k2
              case measure => have := HK1.out; have := HK2.out; omega
              case rel => exact ⟨(x3_2), (wrap64 (x8_1 + 1)), sR, sR, H', ⟨by have := HK1.out; have := HK2.out; omega⟩, ⟨BU⟩⟩
            rw [if_neg c7] at H; have c7b0 : (x5_2 == 0) = false := beq_eq_false_iff_ne.mpr c7; have c7b1 : (x5_2 != 0) = true := bne_iff_ne.mpr c7; have H' := Aside0.mk H; clear H
            go_wp2
            repeat (go_quiet (fail); try go_wp2)
            go_roundg k2
            case measure => have := HK1.out; have := HK2.out; omega
            case rel => exact ⟨(x5_2), (Int.tmod x3_2 x5_2), sR, sR, H', ⟨by have := HK1.out; have := HK2.out; omega⟩, ⟨BU⟩⟩
      rw [if_neg c2] at H; have c2b0 : decide (x8_1 < (l0.length : Int)) = false := decide_eq_false c2; clear c2; obtain rfl := Option.some.inj H
      go_wp2
      repeat (go_quiet (fail); try go_wp2)
      go_ret
      exact ⟨eR, BU⟩

end Go.Proofs.Ytpaohkhmhdhibaa.PFnPoint
