-- Written by a program of this session (wip/print2.py): the functions that the law reaches, plain, and the walks.
import Derived.Test.YtnbeeogmaamgdaaPFnCarryx0
import Derived.Test.YtnbeeogmaamgdaaPFnCarryx1
import Derived.Test.YtnbeeogmaamgdaaPFnCarryx6
import Derived.Test.YtnbeeogmaamgdaaPFnCarryx10
import Derived.Test.YtnbeeogmaamgdaaPFnCarryx11
namespace Go.Proofs.Ytnbeeogmaamgdaa.PFnCarry
open Go.RowKit Go.Proofs.YtnbeeogmaamgdaaW.PrintWords Go.Proofs.YtnbeeogmaamgdaaW.PrintLast Go.Proofs.YtnbeeogmaamgdaaW.PrintMore
attribute [local go_sem] max2_int min2_int max_two min_two max_three min_three max_four min_four   -- for this text's walks alone
set_option linter.unusedVariables false
set_option linter.unusedSimpArgs false

/-! ### spec_MoveCarry: function 29 -/
def spec_MoveCarry.j0 : Nat → List Int → List Int → List Int → Bool → Option ((List (List Int)) × Bool)
  | 0, _, _, _, _ => none
  | k + 1, x0, x1, x2, x38 => if x38 = true then (some ((([] : List (List Int))), false)) else ((spec_l7Mix.f k x1 x2 (-1)).bind fun t389 => ((spec_l5Some.f k t389).bind fun t392 => (if t392 = true then ((spec_l4Value.f k x0 t389).bind fun t396 => (if t396 = 0 then ((spec_l7Mix.f k x1 x2 1).bind fun t397 => ((spec_l5Plain.f k t397).bind fun t400 => ((spec_l5Plain.f k x2).bind fun t403 => (some ((([t400, t403] : List (List Int))), true))))) else ((spec_l5Plain.f k t389).bind fun t409 => (some ((([t409] : List (List Int))), true))))) else (some ((([] : List (List Int))), true)))))
def spec_MoveCarry.f (k : Nat) (l0 : List Int) (l1 : List Int) (l2 : List Int) : Option ((List (List Int)) × Bool) := (spec_l7Form.f k l0).bind fun t380 => (if t380 = true then ((spec_l4Vector.f k l0 l1 500).bind fun t381 => (if t381 = true then ((spec_l4Vector.f k l0 l2 500).bind fun t382 => (if t382 = true then ((spec_l4Value.f k l0 l1).bind fun t383 => (if t383 = 0 then (spec_MoveCarry.j0 k l0 l1 l2 true) else ((spec_l4Value.f k l0 l1).bind fun t384 => ((spec_l4Value.f k l0 l2).bind fun t385 => (spec_MoveCarry.j0 k l0 l1 l2 (t384 != t385)))))) else (spec_MoveCarry.j0 k l0 l1 l2 true))) else (spec_MoveCarry.j0 k l0 l1 l2 true))) else (spec_MoveCarry.j0 k l0 l1 l2 true))
theorem spec_MoveCarry.mono_l : ∀ k, (∀ y0 y1 y2 y3, LeO (spec_MoveCarry.j0 k y0 y1 y2 y3) (spec_MoveCarry.j0 (k + 1) y0 y1 y2 y3))
  | 0 => fun _ _ _ _ r h => by simp [spec_MoveCarry.j0] at h
  | k + 1 => by
    have ih0 := spec_MoveCarry.mono_l k
    · intro y0 y1 y2 y3
      unfold spec_MoveCarry.j0
      repeat' first
      | (with_reducible exact ih0 _ _ _ _)
      | (with_reducible exact spec_l4Value.mono _ _ _)
      | (with_reducible exact spec_l4Vector.mono _ _ _ _)
      | (with_reducible exact spec_l5Plain.mono _ _)
      | (with_reducible exact spec_l5Some.mono _ _)
      | (with_reducible exact spec_l7Form.mono _ _)
      | (with_reducible exact spec_l7Mix.mono _ _ _ _)
      | (with_reducible exact LeO.refl _)
      | (with_reducible exact LeO.none _)
      | (with_reducible refine LeO.ite ?_ ?_)
      | (with_reducible refine LeO.bind ?_ (fun _ => ?_))
      | exact ih0 _ _ _ _
      | exact spec_l4Value.mono _ _ _
      | exact spec_l4Vector.mono _ _ _ _
      | exact spec_l5Plain.mono _ _
      | exact spec_l5Some.mono _ _
      | exact spec_l7Form.mono _ _
      | exact spec_l7Mix.mono _ _ _ _
      | exact LeO.none _
      | refine LeO.ite ?_ ?_
      | refine LeO.bind ?_ (fun _ => ?_)
theorem spec_MoveCarry.mono : ∀ a0 a1 a2 k, LeO (spec_MoveCarry.f k a0 a1 a2) (spec_MoveCarry.f (k + 1) a0 a1 a2) := by
  intro a0 a1 a2 k
  have ih0 := spec_MoveCarry.mono_l k
  unfold spec_MoveCarry.f
  repeat' first
      | (with_reducible exact ih0 _ _ _ _)
      | (with_reducible exact spec_l4Value.mono _ _ _)
      | (with_reducible exact spec_l4Vector.mono _ _ _ _)
      | (with_reducible exact spec_l5Plain.mono _ _)
      | (with_reducible exact spec_l5Some.mono _ _)
      | (with_reducible exact spec_l7Form.mono _ _)
      | (with_reducible exact spec_l7Mix.mono _ _ _ _)
      | (with_reducible exact LeO.refl _)
      | (with_reducible exact LeO.none _)
      | (with_reducible refine LeO.ite ?_ ?_)
      | (with_reducible refine LeO.bind ?_ (fun _ => ?_))
      | exact ih0 _ _ _ _
      | exact spec_l4Value.mono _ _ _
      | exact spec_l4Vector.mono _ _ _ _
      | exact spec_l5Plain.mono _ _
      | exact spec_l5Some.mono _ _
      | exact spec_l7Form.mono _ _
      | exact spec_l7Mix.mono _ _ _ _
      | exact LeO.none _
      | refine LeO.ite ?_ ?_
      | refine LeO.bind ?_ (fun _ => ?_)
set_option maxHeartbeats 8000000 in
set_option maxRecDepth 100000 in
theorem spec_MoveCarry.calls (k : Nat) (A0 : Option Addr) (c0 : Nat) (l0 : List Int) (A1 : Option Addr) (c1 : Nat) (l1 : List Int) (A2 : Option Addr) (c2 : Nat) (l2 : List Int) (r1 : List (List Int)) (r2 : Bool) (w : World) (hr0 : Kd.C (Kd.int .i64) w A0 l0.length l0) (hc0 : l0.length ≤ c0) (hr1 : Kd.C (Kd.int .i64) w A1 l1.length l1) (hc1 : l1.length ≤ c1) (hr2 : Kd.C (Kd.int .i64) w A2 l2.length l2) (hc2 : l2.length ≤ c2) (h : spec_MoveCarry.f k l0 l1 l2 = some (r1, r2)) :
    Calls Try.prog 29 #[.slice A0 l0.length c0, .slice A1 l1.length c1, .slice A2 l2.length c2] w fun e w' => ∃ v0_ : Value, e = .returned (.tuple #[v0_, .bool r2]) ∧ Kd.N (Kd.slice 3 (Kd.int .i64)) 23 w' w.heap.size (fun k_ => (w.heap.size ≤ k_)) v0_ r1 ∧ Below w.heap.size w w' := by
  have HR0 := Aside0.mk hr0; have HC0 := Aside0.mk hc0; clear hr0 hc0; have HR1 := Aside0.mk hr1; have HC1 := Aside0.mk hc1; clear hr1 hc1; have HR2 := Aside0.mk hr2; have HC2 := Aside0.mk hc2; clear hr2 hc2; have HB := Aside0.mk (Below.refl w.heap.size w); unfold spec_MoveCarry.f at h; have H := h; clear h; have HC4 := Aside0.mk H; clear H; go_enter Try.func29, Try.ntmps29
  go_upto_region 1 with (fail)
  go_cut [38] (fun v38 wc => ∃ (kq : Nat) (x38_3 : Bool), v38 = .bool x38_3 ∧ Aside0 (spec_MoveCarry.j0 kq l0 l1 l2 x38_3 = some (r1, r2)) ∧ Aside0 (kq ≤ k) ∧ Aside0 (Below w.heap.size w wc))
  case first =>
    have H := HC4.out; clear HC4; obtain ⟨t380, A5, H⟩ := bnd H
    by_cases c6 : t380 = true
    · subst c6
      replace H := ifT H; obtain ⟨t381, A7, H⟩ := bnd H
      by_cases c8 : t381 = true
      · subst c8
        replace H := ifT H; obtain ⟨t382, A9, H⟩ := bnd H
        by_cases c10 : t382 = true
        · subst c10
          replace H := ifT H; obtain ⟨t383, A11, H⟩ := bnd H
          by_cases c12 : t383 = 0
          · rw [if_pos c12] at H
            have c12b0 : (t383 == 0) = true := beq_iff_eq.mpr c12; have c12b1 : (t383 != 0) = false := bne_eq_false_iff_eq.mpr c12; clear c12
            (first | rw [c12b0] | (simp only [i64_w, i32_w]; rw [c12b0]) | skip)
            have H' := Aside0.mk H; clear H
            go_wp2_with (first | ((with_reducible refine gate_callee (f := 54) rfl ?_); refine goesK (some 10) Try.func54 #[.slice A0 l0.length c0] ?_; (with_reducible refine (spec_l7Form.calls k _ _ l0 true _ ?side1 ?side2 A5.out).mono ?_); (case side1 => exact U (Kd.C_below HR0.out HB.out)); (case side2 => exact HC0.out); rintro e w' ⟨rfl, ⟨nd, rfl⟩⟩; refine ⟨_, rfl, ?_⟩) | (go_at_call 67; (with_reducible refine (spec_l4Vector.calls k _ _ l0 _ _ l1 500 true _ ?side1 ?side2 ?side3 ?side4 A7.out).mono ?_); (case side1 => exact U (Kd.C_below HR0.out BU)); (case side2 => exact HC0.out); (case side3 => exact U (Kd.C_below HR1.out BU)); (case side4 => exact HC1.out); rintro e w' ⟨rfl, ⟨nd, rfl⟩⟩) | (go_at_call 67; (with_reducible refine (spec_l4Vector.calls k _ _ l0 _ _ l2 500 true _ ?side1 ?side2 ?side3 ?side4 A9.out).mono ?_); (case side1 => exact U (Kd.C_below HR0.out BU)); (case side2 => exact HC0.out); (case side3 => exact U (Kd.C_below HR2.out BU)); (case side4 => exact HC2.out); rintro e w' ⟨rfl, ⟨nd, rfl⟩⟩) | (go_at_call 75; (with_reducible refine (spec_l4Value.calls k _ _ l0 _ _ l1 t383 _ ?side1 ?side2 ?side3 ?side4 A11.out).mono ?_); (case side1 => exact U (Kd.C_below HR0.out BU)); (case side2 => exact HC0.out); (case side3 => exact U (Kd.C_below HR1.out BU)); (case side4 => exact HC1.out); rintro e w' ⟨rfl, ⟨nd, rfl⟩⟩))
            go_meet
            case rel => exact ⟨_, (true), sR, H', ⟨oR⟩, ⟨BU⟩⟩
          rw [if_neg c12] at H; have c12b0 : (t383 == 0) = false := beq_eq_false_iff_ne.mpr c12; have c12b1 : (t383 != 0) = true := bne_iff_ne.mpr c12
          (first | rw [c12b0] | (simp only [i64_w, i32_w]; rw [c12b0]) | skip)
          obtain ⟨t384, A13, H⟩ := bnd H; obtain ⟨t385, A14, H⟩ := bnd H; have H' := Aside0.mk H; clear H
          go_wp2_with (first | ((with_reducible refine gate_callee (f := 54) rfl ?_); refine goesK (some 10) Try.func54 #[.slice A0 l0.length c0] ?_; (with_reducible refine (spec_l7Form.calls k _ _ l0 true _ ?side1 ?side2 A5.out).mono ?_); (case side1 => exact U (Kd.C_below HR0.out HB.out)); (case side2 => exact HC0.out); rintro e w' ⟨rfl, ⟨nd, rfl⟩⟩; refine ⟨_, rfl, ?_⟩) | (go_at_call 67; (with_reducible refine (spec_l4Vector.calls k _ _ l0 _ _ l1 500 true _ ?side1 ?side2 ?side3 ?side4 A7.out).mono ?_); (case side1 => exact U (Kd.C_below HR0.out BU)); (case side2 => exact HC0.out); (case side3 => exact U (Kd.C_below HR1.out BU)); (case side4 => exact HC1.out); rintro e w' ⟨rfl, ⟨nd, rfl⟩⟩) | (go_at_call 67; (with_reducible refine (spec_l4Vector.calls k _ _ l0 _ _ l2 500 true _ ?side1 ?side2 ?side3 ?side4 A9.out).mono ?_); (case side1 => exact U (Kd.C_below HR0.out BU)); (case side2 => exact HC0.out); (case side3 => exact U (Kd.C_below HR2.out BU)); (case side4 => exact HC2.out); rintro e w' ⟨rfl, ⟨nd, rfl⟩⟩) | (go_at_call 75; (with_reducible refine (spec_l4Value.calls k _ _ l0 _ _ l1 t383 _ ?side1 ?side2 ?side3 ?side4 A11.out).mono ?_); (case side1 => exact U (Kd.C_below HR0.out BU)); (case side2 => exact HC0.out); (case side3 => exact U (Kd.C_below HR1.out BU)); (case side4 => exact HC1.out); rintro e w' ⟨rfl, ⟨nd, rfl⟩⟩) | (go_at_call 75; (with_reducible refine (spec_l4Value.calls k _ _ l0 _ _ l1 t384 _ ?side1 ?side2 ?side3 ?side4 A13.out).mono ?_); (case side1 => exact U (Kd.C_below HR0.out BU)); (case side2 => exact HC0.out); (case side3 => exact U (Kd.C_below HR1.out BU)); (case side4 => exact HC1.out); rintro e w' ⟨rfl, ⟨nd, rfl⟩⟩) | (go_at_call 75; (with_reducible refine (spec_l4Value.calls k _ _ l0 _ _ l2 t385 _ ?side1 ?side2 ?side3 ?side4 A14.out).mono ?_); (case side1 => exact U (Kd.C_below HR0.out BU)); (case side2 => exact HC0.out); (case side3 => exact U (Kd.C_below HR2.out BU)); (case side4 => exact HC2.out); rintro e w' ⟨rfl, ⟨nd, rfl⟩⟩))
          go_meet
          case rel => have e_ : t384 = t383 := Option.some.inj (A13.out.symm.trans A11.out); exact ⟨_, ((t384 != t385)), sR, H', ⟨oR⟩, ⟨BU⟩⟩
        replace c10 := Bool.eq_false_iff.mpr c10; subst c10; replace H := ifF H; have H' := Aside0.mk H; clear H
        go_wp2_with (first | ((with_reducible refine gate_callee (f := 54) rfl ?_); refine goesK (some 10) Try.func54 #[.slice A0 l0.length c0] ?_; (with_reducible refine (spec_l7Form.calls k _ _ l0 true _ ?side1 ?side2 A5.out).mono ?_); (case side1 => exact U (Kd.C_below HR0.out HB.out)); (case side2 => exact HC0.out); rintro e w' ⟨rfl, ⟨nd, rfl⟩⟩; refine ⟨_, rfl, ?_⟩) | (go_at_call 67; (with_reducible refine (spec_l4Vector.calls k _ _ l0 _ _ l1 500 true _ ?side1 ?side2 ?side3 ?side4 A7.out).mono ?_); (case side1 => exact U (Kd.C_below HR0.out BU)); (case side2 => exact HC0.out); (case side3 => exact U (Kd.C_below HR1.out BU)); (case side4 => exact HC1.out); rintro e w' ⟨rfl, ⟨nd, rfl⟩⟩) | (go_at_call 67; (with_reducible refine (spec_l4Vector.calls k _ _ l0 _ _ l2 500 false _ ?side1 ?side2 ?side3 ?side4 A9.out).mono ?_); (case side1 => exact U (Kd.C_below HR0.out BU)); (case side2 => exact HC0.out); (case side3 => exact U (Kd.C_below HR2.out BU)); (case side4 => exact HC2.out); rintro e w' ⟨rfl, ⟨nd, rfl⟩⟩))
        go_meet
        case rel => exact ⟨_, (true), sR, H', ⟨oR⟩, ⟨BU⟩⟩
      replace c8 := Bool.eq_false_iff.mpr c8; subst c8; replace H := ifF H; have H' := Aside0.mk H; clear H
      go_wp2_with (first | ((with_reducible refine gate_callee (f := 54) rfl ?_); refine goesK (some 10) Try.func54 #[.slice A0 l0.length c0] ?_; (with_reducible refine (spec_l7Form.calls k _ _ l0 true _ ?side1 ?side2 A5.out).mono ?_); (case side1 => exact U (Kd.C_below HR0.out HB.out)); (case side2 => exact HC0.out); rintro e w' ⟨rfl, ⟨nd, rfl⟩⟩; refine ⟨_, rfl, ?_⟩) | (go_at_call 67; (with_reducible refine (spec_l4Vector.calls k _ _ l0 _ _ l1 500 false _ ?side1 ?side2 ?side3 ?side4 A7.out).mono ?_); (case side1 => exact U (Kd.C_below HR0.out BU)); (case side2 => exact HC0.out); (case side3 => exact U (Kd.C_below HR1.out BU)); (case side4 => exact HC1.out); rintro e w' ⟨rfl, ⟨nd, rfl⟩⟩))
      go_meet
      case rel => exact ⟨_, (true), sR, H', ⟨oR⟩, ⟨BU⟩⟩
    replace c6 := Bool.eq_false_iff.mpr c6; subst c6; replace H := ifF H; have H' := Aside0.mk H; clear H
    go_wp2_with (first | ((with_reducible refine gate_callee (f := 54) rfl ?_); refine goesK (some 10) Try.func54 #[.slice A0 l0.length c0] ?_; (with_reducible refine (spec_l7Form.calls k _ _ l0 false _ ?side1 ?side2 A5.out).mono ?_); (case side1 => exact U (Kd.C_below HR0.out HB.out)); (case side2 => exact HC0.out); rintro e w' ⟨rfl, ⟨nd, rfl⟩⟩; refine ⟨_, rfl, ?_⟩))
    go_meet
    case rel => exact ⟨_, (true), sR, H', ⟨oR⟩, ⟨BU⟩⟩
  case rest =>
    clear HC4; obtain ⟨kq, x38_3, rfl, HA, HJ3, HB⟩ := hcut; cases kq with
    | zero => exact absurd HA.out (by simp [spec_MoveCarry.j0])
    | succ kj3 =>
      have H := HA.out; clear HA; simp only [spec_MoveCarry.j0] at H
      by_cases c15 : x38_3 = true
      · subst c15
        replace H := ifT H; obtain ⟨y386, hy386⟩ : ∃ y_ : List (List Int), y_ = (([] : List (List Int))) := ⟨_, rfl⟩; replace H : (some (y386, false)) = some (r1, r2) := rH hy386 H; have Ny386 := Aside0.mk hy386; clear hy386; simp only [Option.some.injEq, Prod.mk.injEq] at H; obtain ⟨rfl, rfl⟩ := H
        go_wp2_with (first | ((with_reducible refine gate_dst (N := 39) rfl ?_); refine Kd.N_lit (Kd.slice 3 (Kd.int .i64)) _ 23 ?hg (N' := 39) ?hd (xs := ([] : List (List Int))) (inner := []) (ok := (fun k_ => (w.heap.size ≤ k_))) (okp := (fun k_ => (w.heap.size ≤ k_))) ?hr ?hp (fun _ hk => hk) ((show ∀ k_, wc.heap.size ≤ k_ → (fun k_ => (w.heap.size ≤ k_)) k_ from fun k_ hk => (Nat.le_trans (below_size BU) hk)) _ (Nat.le_refl _)) (Below.refl _ _) (Nat.le_refl _) (by simp) ?_; (case hd => rfl); (case hg => rfl); (case hr => first | (go_simp; done) | (go_simp; rfl)); (case hp => exact (Reps.none _ _)); intro v387 w16 ho17 hb hg_ hnew_; clear hg_ hnew_; (first | rw [← Ny386.out] at ho17 | (simp only [Int.reduceToNat] at ho17; rw [← Ny386.out] at ho17)); have HO388 := Aside0.mk (Kd.N_lower ho17 (below_size BU)); replace HB := BS hb; clear hb ho17))
        go_ret2
        exact ⟨_, eR, U HO388.out, BU⟩
      replace c15 := Bool.eq_false_iff.mpr c15; subst c15; replace H := ifF H; obtain ⟨t389, A18, H⟩ := bnd H; obtain ⟨t392, A19, H⟩ := bnd H
      by_cases c20 : t392 = true
      · subst c20
        replace H := ifT H; obtain ⟨t396, A21, H⟩ := bnd H
        by_cases c22 : t396 = 0
        · rw [if_pos c22] at H
          have c22b0 : (t396 == 0) = true := beq_iff_eq.mpr c22; have c22b1 : (t396 != 0) = false := bne_eq_false_iff_eq.mpr c22; clear c22; obtain ⟨t397, A23, H⟩ := bnd H; obtain ⟨t400, A24, H⟩ := bnd H; obtain ⟨t403, A25, H⟩ := bnd H; obtain ⟨y406, hy406⟩ : ∃ y_ : List (List Int), y_ = (([t400, t403] : List (List Int))) := ⟨_, rfl⟩; replace H : (some (y406, true)) = some (r1, r2) := rH hy406 H; have Ny406 := Aside0.mk hy406; clear hy406; simp only [Option.some.injEq, Prod.mk.injEq] at H; obtain ⟨rfl, rfl⟩ := H
          go_wp2_with (first | ((with_reducible refine gate_callee (f := 76) rfl ?_); refine goesK (some 42) Try.func76 #[.slice A1 l1.length c1, .slice A2 l2.length c2, .int .i64 (-1)] ?_; (with_reducible refine (spec_l7Mix.calls kj3 _ _ l1 _ _ l2 (-1) t389 _ ?side1 ?side2 ?side3 ?side4 A18.out).mono ?_); (case side1 => exact U (Kd.C_below HR1.out HB.out)); (case side2 => exact HC1.out); (case side3 => exact U (Kd.C_below HR2.out HB.out)); (case side4 => exact HC2.out); rintro e w26 ⟨v390, rfl, ho0, hb⟩; refine ⟨_, rfl, ?_⟩; have HO391 := Aside0.mk (Kd.R_lower (Kd.R_newM (M := fun k_ => (w.heap.size ≤ k_)) ho0 (below_size BU) (fun k_ h_ => h_)) (below_size BU)); replace HB := BS hb; (try clear hb); (try clear ho0); obtain ⟨Ao27, co27, eo27⟩ := Kd.R_slice HO391.out; subst eo27) | ((with_reducible refine gate_callee (f := 77) rfl ?_); refine goesK (some 44) Try.func77 #[.slice Ao27 t389.length co27] ?_; (with_reducible refine (spec_l5Some.calls kj3 _ _ t389 true _ ?side1 ?side2 A19.out).mono ?_); (case side1 => exact U ((Kd.R_reads' HO391.out).2.2)); (case side2 => exact (Kd.R_reads' HO391.out).2.1); rintro e w' ⟨rfl, ⟨nd, rfl⟩⟩; refine ⟨_, rfl, ?_⟩) | ((with_reducible refine gate_callee (f := 75) rfl ?_); refine goesK (some 49) Try.func75 #[.slice A0 l0.length c0, .slice Ao27 t389.length co27] ?_; (with_reducible refine (spec_l4Value.calls kj3 _ _ l0 _ _ t389 t396 _ ?side1 ?side2 ?side3 ?side4 A21.out).mono ?_); (case side1 => exact U (Kd.C_below HR0.out BU)); (case side2 => exact HC0.out); (case side3 => exact U ((Kd.R_reads' HO391.out).2.2)); (case side4 => exact (Kd.R_reads' HO391.out).2.1); rintro e w' ⟨rfl, ⟨nd, rfl⟩⟩; refine ⟨_, rfl, ?_⟩) | ((with_reducible refine gate_callee (f := 76) rfl ?_); refine goesK (some 56) Try.func76 #[.slice A1 l1.length c1, .slice A2 l2.length c2, .int .i64 1] ?_; (with_reducible refine (spec_l7Mix.calls kj3 _ _ l1 _ _ l2 1 t397 _ ?side1 ?side2 ?side3 ?side4 A23.out).mono ?_); (case side1 => exact U (Kd.C_below HR1.out BU)); (case side2 => exact HC1.out); (case side3 => exact U (Kd.C_below HR2.out BU)); (case side4 => exact HC2.out); rintro e w28 ⟨v398, rfl, ho0, hb⟩; refine ⟨_, rfl, ?_⟩; have HO399 := Aside0.mk (Kd.R_lower (Kd.R_new' (Kd.R_newM (M := fun k_ => (w.heap.size ≤ k_)) ho0 (below_size BU) (fun k_ h_ => h_)) (Kd.R_lt (U HO391.out))) (below_size BU)); replace HO391 := Aside0.mk (Kd.R_elder' (U HO391.out) (Kd.R_base ho0) hb); replace HB := BS hb; (try clear hb); (try clear ho0); obtain ⟨Ao29, co29, eo29⟩ := Kd.R_slice HO399.out; subst eo29) | ((with_reducible refine gate_callee (f := 78) rfl ?_); refine goesK (some 57) Try.func78 #[.slice Ao29 t397.length co29] ?_; (with_reducible refine (spec_l5Plain.calls kj3 _ _ t397 t400 _ ?side1 ?side2 A24.out).mono ?_); (case side1 => exact U ((Kd.R_reads' HO399.out).2.2)); (case side2 => exact (Kd.R_reads' HO399.out).2.1); rintro e w30 ⟨v401, rfl, ho0, hb⟩; refine ⟨_, rfl, ?_⟩; have HO402 := Aside0.mk (Kd.R_lower (Kd.R_new' (Kd.R_new' (Kd.R_newM (M := fun k_ => (w.heap.size ≤ k_)) ho0 (below_size BU) (fun k_ h_ => h_)) (Kd.R_lt (U HO391.out))) (Kd.R_lt (U HO399.out))) (below_size BU)); replace HO391 := Aside0.mk (Kd.R_elder' (U HO391.out) (Kd.R_base ho0) hb); replace HO399 := Aside0.mk (Kd.R_elder' (U HO399.out) (Kd.R_base ho0) hb); replace HB := BS hb; (try clear hb); (try clear ho0)) | ((with_reducible refine gate_callee (f := 78) rfl ?_); refine goesK (some 59) Try.func78 #[.slice A2 l2.length c2] ?_; (with_reducible refine (spec_l5Plain.calls kj3 _ _ l2 t403 _ ?side1 ?side2 A25.out).mono ?_); (case side1 => exact U (Kd.C_below HR2.out HB.out)); (case side2 => exact HC2.out); rintro e w31 ⟨v404, rfl, ho0, hb⟩; refine ⟨_, rfl, ?_⟩; have HO405 := Aside0.mk (Kd.R_lower (Kd.R_new' (Kd.R_new' (Kd.R_new' (Kd.R_newM (M := fun k_ => (w.heap.size ≤ k_)) ho0 (below_size BU) (fun k_ h_ => h_)) (Kd.R_lt (U HO391.out))) (Kd.R_lt (U HO399.out))) (Kd.R_lt (U HO402.out))) (below_size BU)); replace HO391 := Aside0.mk (Kd.R_elder' (U HO391.out) (Kd.R_base ho0) hb); replace HO399 := Aside0.mk (Kd.R_elder' (U HO399.out) (Kd.R_base ho0) hb); replace HO402 := Aside0.mk (Kd.R_elder' (U HO402.out) (Kd.R_base ho0) hb); replace HB := BS hb; (try clear hb); (try clear ho0); obtain ⟨Ao32, co32, eo32⟩ := Kd.R_slice HO402.out; subst eo32; obtain ⟨Ao33, co33, eo33⟩ := Kd.R_slice HO405.out; subst eo33) | ((with_reducible refine gate_dst (N := 60) rfl ?_); refine Kd.N_lit (Kd.slice 3 (Kd.int .i64)) _ 23 ?hg (N' := 60) ?hd (xs := ([t400, t403] : List (List Int))) (inner := [.slice Ao32 t400.length co32, .slice Ao33 t403.length co33]) (ok := (fun k_ => (w.heap.size ≤ k_) ∧ some k_ ≠ (.slice Ao27 t389.length co27 : Value).ownBlock ∧ some k_ ≠ (.slice Ao29 t397.length co29 : Value).ownBlock)) (okp := (fun k_ => (w.heap.size ≤ k_) ∧ some k_ ≠ (.slice Ao27 t389.length co27 : Value).ownBlock ∧ some k_ ≠ (.slice Ao29 t397.length co29 : Value).ownBlock)) ?hr ?hp (fun _ hk => hk) ((show ∀ k_, w31.heap.size ≤ k_ → (fun k_ => (w.heap.size ≤ k_) ∧ some k_ ≠ (.slice Ao27 t389.length co27 : Value).ownBlock ∧ some k_ ≠ (.slice Ao29 t397.length co29 : Value).ownBlock) k_ from fun k_ hk => ⟨(Nat.le_trans (below_size BU) hk), Kd.fresh' (Kd.R_lt (U HO391.out)) k_ hk, Kd.fresh' (Kd.R_lt (U HO399.out)) k_ hk⟩) _ (Nat.le_refl _)) (Below.refl _ _) (Nat.le_refl _) (by simp) ?_; (case hd => rfl); (case hg => rfl); (case hr => first | (go_simp; done) | (go_simp; rfl)); (case hp => exact (Reps.one (show Kd.FK (Kd.slice 3 (Kd.int .i64)) _ _ t400 [.slice Ao32 t400.length co32] from (Kd.FK_slice_mk (Kd.R_reads' (Kd.R_mono (ok' := (fun k_ => (w.heap.size ≤ k_) ∧ some k_ ≠ (.slice Ao27 t389.length co27 : Value).ownBlock ∧ some k_ ≠ (.slice Ao29 t397.length co29 : Value).ownBlock)) (HO402.out) (fun k_ hk => ⟨hk.1.1.1.1, ⟨hk.1.1.2, hk.1.2⟩⟩))).2.1 (Kd.R_F (Kd.R_mono (ok' := (fun k_ => (w.heap.size ≤ k_) ∧ some k_ ≠ (.slice Ao27 t389.length co27 : Value).ownBlock ∧ some k_ ≠ (.slice Ao29 t397.length co29 : Value).ownBlock)) (HO402.out) (fun k_ hk => ⟨hk.1.1.1.1, ⟨hk.1.1.2, hk.1.2⟩⟩))))) (Reps.one (show Kd.FK (Kd.slice 3 (Kd.int .i64)) _ _ t403 [.slice Ao33 t403.length co33] from (Kd.FK_slice_mk (Kd.R_reads' (Kd.R_mono (ok' := (fun k_ => (w.heap.size ≤ k_) ∧ some k_ ≠ (.slice Ao27 t389.length co27 : Value).ownBlock ∧ some k_ ≠ (.slice Ao29 t397.length co29 : Value).ownBlock)) (HO405.out) (fun k_ hk => ⟨hk.1.1.1.1, ⟨hk.1.1.2, hk.1.2⟩⟩))).2.1 (Kd.R_F (Kd.R_mono (ok' := (fun k_ => (w.heap.size ≤ k_) ∧ some k_ ≠ (.slice Ao27 t389.length co27 : Value).ownBlock ∧ some k_ ≠ (.slice Ao29 t397.length co29 : Value).ownBlock)) (HO405.out) (fun k_ hk => ⟨hk.1.1.1.1, ⟨hk.1.1.2, hk.1.2⟩⟩))))) (Reps.none _ _)))); intro v407 w34 ho35 hb hg_ hnew_; clear hg_ hnew_; (first | rw [← Ny406.out] at ho35 | (simp only [Int.reduceToNat] at ho35; rw [← Ny406.out] at ho35)); have n0_ := Aside0.mk (Kd.R_below (U HO391.out) hb); have n1_ := Aside0.mk (Kd.R_below (U HO399.out) hb); have n2_ := Aside0.mk (Kd.N_lower ho35 (below_size BU)); have n3_ := BS hb; clear HO391; clear HO399; try clear HB; clear HO402; clear HO405; have HO391 := n0_; have HO399 := n1_; have HO408 := n2_; have HB := n3_; clear n0_ n1_ n2_ n3_; clear hb ho35))
          go_ret2
          exact ⟨_, eR, Kd.NM HO408.out (fun _ hk => hk.1), BU⟩
        rw [if_neg c22] at H; have c22b0 : (t396 == 0) = false := beq_eq_false_iff_ne.mpr c22; have c22b1 : (t396 != 0) = true := bne_iff_ne.mpr c22; obtain ⟨t409, A36, H⟩ := bnd H; obtain ⟨y412, hy412⟩ : ∃ y_ : List (List Int), y_ = (([t409] : List (List Int))) := ⟨_, rfl⟩; replace H : (some (y412, true)) = some (r1, r2) := rH hy412 H; have Ny412 := Aside0.mk hy412; clear hy412; simp only [Option.some.injEq, Prod.mk.injEq] at H; obtain ⟨rfl, rfl⟩ := H
        go_wp2_with (first | ((with_reducible refine gate_callee (f := 76) rfl ?_); refine goesK (some 42) Try.func76 #[.slice A1 l1.length c1, .slice A2 l2.length c2, .int .i64 (-1)] ?_; (with_reducible refine (spec_l7Mix.calls kj3 _ _ l1 _ _ l2 (-1) t389 _ ?side1 ?side2 ?side3 ?side4 A18.out).mono ?_); (case side1 => exact U (Kd.C_below HR1.out HB.out)); (case side2 => exact HC1.out); (case side3 => exact U (Kd.C_below HR2.out HB.out)); (case side4 => exact HC2.out); rintro e w37 ⟨v390, rfl, ho0, hb⟩; refine ⟨_, rfl, ?_⟩; have HO391 := Aside0.mk (Kd.R_lower (Kd.R_newM (M := fun k_ => (w.heap.size ≤ k_)) ho0 (below_size BU) (fun k_ h_ => h_)) (below_size BU)); replace HB := BS hb; (try clear hb); (try clear ho0); obtain ⟨Ao38, co38, eo38⟩ := Kd.R_slice HO391.out; subst eo38) | ((with_reducible refine gate_callee (f := 77) rfl ?_); refine goesK (some 44) Try.func77 #[.slice Ao38 t389.length co38] ?_; (with_reducible refine (spec_l5Some.calls kj3 _ _ t389 true _ ?side1 ?side2 A19.out).mono ?_); (case side1 => exact U ((Kd.R_reads' HO391.out).2.2)); (case side2 => exact (Kd.R_reads' HO391.out).2.1); rintro e w' ⟨rfl, ⟨nd, rfl⟩⟩; refine ⟨_, rfl, ?_⟩) | ((with_reducible refine gate_callee (f := 75) rfl ?_); refine goesK (some 49) Try.func75 #[.slice A0 l0.length c0, .slice Ao38 t389.length co38] ?_; (with_reducible refine (spec_l4Value.calls kj3 _ _ l0 _ _ t389 t396 _ ?side1 ?side2 ?side3 ?side4 A21.out).mono ?_); (case side1 => exact U (Kd.C_below HR0.out BU)); (case side2 => exact HC0.out); (case side3 => exact U ((Kd.R_reads' HO391.out).2.2)); (case side4 => exact (Kd.R_reads' HO391.out).2.1); rintro e w' ⟨rfl, ⟨nd, rfl⟩⟩; refine ⟨_, rfl, ?_⟩) | ((with_reducible refine gate_callee (f := 78) rfl ?_); refine goesK (some 52) Try.func78 #[.slice Ao38 t389.length co38] ?_; (with_reducible refine (spec_l5Plain.calls kj3 _ _ t389 t409 _ ?side1 ?side2 A36.out).mono ?_); (case side1 => exact U ((Kd.R_reads' HO391.out).2.2)); (case side2 => exact (Kd.R_reads' HO391.out).2.1); rintro e w39 ⟨v410, rfl, ho0, hb⟩; refine ⟨_, rfl, ?_⟩; have HO411 := Aside0.mk (Kd.R_lower (Kd.R_new' (Kd.R_newM (M := fun k_ => (w.heap.size ≤ k_)) ho0 (below_size BU) (fun k_ h_ => h_)) (Kd.R_lt (U HO391.out))) (below_size BU)); replace HO391 := Aside0.mk (Kd.R_elder' (U HO391.out) (Kd.R_base ho0) hb); replace HB := BS hb; (try clear hb); (try clear ho0); obtain ⟨Ao40, co40, eo40⟩ := Kd.R_slice HO411.out; subst eo40) | ((with_reducible refine gate_dst (N := 53) rfl ?_); refine Kd.N_lit (Kd.slice 3 (Kd.int .i64)) _ 23 ?hg (N' := 53) ?hd (xs := ([t409] : List (List Int))) (inner := [.slice Ao40 t409.length co40]) (ok := (fun k_ => (w.heap.size ≤ k_) ∧ some k_ ≠ (.slice Ao38 t389.length co38 : Value).ownBlock)) (okp := (fun k_ => (w.heap.size ≤ k_) ∧ some k_ ≠ (.slice Ao38 t389.length co38 : Value).ownBlock)) ?hr ?hp (fun _ hk => hk) ((show ∀ k_, w39.heap.size ≤ k_ → (fun k_ => (w.heap.size ≤ k_) ∧ some k_ ≠ (.slice Ao38 t389.length co38 : Value).ownBlock) k_ from fun k_ hk => ⟨(Nat.le_trans (below_size BU) hk), Kd.fresh' (Kd.R_lt (U HO391.out)) k_ hk⟩) _ (Nat.le_refl _)) (Below.refl _ _) (Nat.le_refl _) (by simp) ?_; (case hd => rfl); (case hg => rfl); (case hr => first | (go_simp; done) | (go_simp; rfl)); (case hp => exact (Reps.one (show Kd.FK (Kd.slice 3 (Kd.int .i64)) _ _ t409 [.slice Ao40 t409.length co40] from (Kd.FK_slice_mk (Kd.R_reads' (Kd.R_mono (ok' := (fun k_ => (w.heap.size ≤ k_) ∧ some k_ ≠ (.slice Ao38 t389.length co38 : Value).ownBlock)) (HO411.out) (fun k_ hk => ⟨hk.1.1, hk.2⟩))).2.1 (Kd.R_F (Kd.R_mono (ok' := (fun k_ => (w.heap.size ≤ k_) ∧ some k_ ≠ (.slice Ao38 t389.length co38 : Value).ownBlock)) (HO411.out) (fun k_ hk => ⟨hk.1.1, hk.2⟩))))) (Reps.none _ _))); intro v413 w41 ho42 hb hg_ hnew_; clear hg_ hnew_; (first | rw [← Ny412.out] at ho42 | (simp only [Int.reduceToNat] at ho42; rw [← Ny412.out] at ho42)); have n0_ := Aside0.mk (Kd.R_below (U HO391.out) hb); have n1_ := Aside0.mk (Kd.N_lower ho42 (below_size BU)); have n2_ := BS hb; clear HO391; try clear HB; clear HO411; have HO391 := n0_; have HO414 := n1_; have HB := n2_; clear n0_ n1_ n2_; clear hb ho42))
        go_ret2
        exact ⟨_, eR, Kd.NM HO414.out (fun _ hk => hk.1), BU⟩
      replace c20 := Bool.eq_false_iff.mpr c20; subst c20; replace H := ifF H; obtain ⟨y393, hy393⟩ : ∃ y_ : List (List Int), y_ = (([] : List (List Int))) := ⟨_, rfl⟩; replace H : (some (y393, true)) = some (r1, r2) := rH hy393 H; have Ny393 := Aside0.mk hy393; clear hy393; simp only [Option.some.injEq, Prod.mk.injEq] at H; obtain ⟨rfl, rfl⟩ := H
      go_wp2_with (first | ((with_reducible refine gate_callee (f := 76) rfl ?_); refine goesK (some 42) Try.func76 #[.slice A1 l1.length c1, .slice A2 l2.length c2, .int .i64 (-1)] ?_; (with_reducible refine (spec_l7Mix.calls kj3 _ _ l1 _ _ l2 (-1) t389 _ ?side1 ?side2 ?side3 ?side4 A18.out).mono ?_); (case side1 => exact U (Kd.C_below HR1.out HB.out)); (case side2 => exact HC1.out); (case side3 => exact U (Kd.C_below HR2.out HB.out)); (case side4 => exact HC2.out); rintro e w43 ⟨v390, rfl, ho0, hb⟩; refine ⟨_, rfl, ?_⟩; have HO391 := Aside0.mk (Kd.R_lower (Kd.R_newM (M := fun k_ => (w.heap.size ≤ k_)) ho0 (below_size BU) (fun k_ h_ => h_)) (below_size BU)); replace HB := BS hb; (try clear hb); (try clear ho0); obtain ⟨Ao44, co44, eo44⟩ := Kd.R_slice HO391.out; subst eo44) | ((with_reducible refine gate_callee (f := 77) rfl ?_); refine goesK (some 44) Try.func77 #[.slice Ao44 t389.length co44] ?_; (with_reducible refine (spec_l5Some.calls kj3 _ _ t389 false _ ?side1 ?side2 A19.out).mono ?_); (case side1 => exact U ((Kd.R_reads' HO391.out).2.2)); (case side2 => exact (Kd.R_reads' HO391.out).2.1); rintro e w' ⟨rfl, ⟨nd, rfl⟩⟩; refine ⟨_, rfl, ?_⟩) | ((with_reducible refine gate_dst (N := 46) rfl ?_); refine Kd.N_lit (Kd.slice 3 (Kd.int .i64)) _ 23 ?hg (N' := 46) ?hd (xs := ([] : List (List Int))) (inner := []) (ok := (fun k_ => (w.heap.size ≤ k_) ∧ some k_ ≠ (.slice Ao44 t389.length co44 : Value).ownBlock)) (okp := (fun k_ => (w.heap.size ≤ k_) ∧ some k_ ≠ (.slice Ao44 t389.length co44 : Value).ownBlock)) ?hr ?hp (fun _ hk => hk) ((show ∀ k_, w43.heap.size ≤ k_ → (fun k_ => (w.heap.size ≤ k_) ∧ some k_ ≠ (.slice Ao44 t389.length co44 : Value).ownBlock) k_ from fun k_ hk => ⟨(Nat.le_trans (below_size BU) hk), Kd.fresh' (Kd.R_lt (U HO391.out)) k_ hk⟩) _ (Nat.le_refl _)) (Below.refl _ _) (Nat.le_refl _) (by simp) ?_; (case hd => rfl); (case hg => rfl); (case hr => first | (go_simp; done) | (go_simp; rfl)); (case hp => exact (Reps.none _ _)); intro v394 w45 ho46 hb hg_ hnew_; clear hg_ hnew_; (first | rw [← Ny393.out] at ho46 | (simp only [Int.reduceToNat] at ho46; rw [← Ny393.out] at ho46)); replace HO391 := Aside0.mk (Kd.R_below (U HO391.out) hb); have HO395 := Aside0.mk (Kd.N_lower ho46 (below_size BU)); replace HB := BS hb; clear hb ho46))
      go_ret2
      exact ⟨_, eR, Kd.NM HO395.out (fun _ hk => hk.1), BU⟩

/-! ### laws_sameLists: function 30 -/
def laws_sameLists.l0 : Nat → List (List Int) → List (List Int) → Int → Option (Bool)
  | 0, _, _, _ => none
  | k + 1, x0, x1, x5 => if x5 < (x0.length : Int) then (if 0 ≤ x5 then (if x5 < (x1.length : Int) then ((laws_sameInts.f k (rd_L1 x0 x5) (rd_L1 x1 x5)).bind fun t417 => (if t417 = true then (laws_sameLists.l0 k x0 x1 (wrap64 (x5 + 1))) else (some false))) else (none)) else (none)) else (some true)
def laws_sameLists.f (k : Nat) (l0 : List (List Int)) (l1 : List (List Int)) : Option (Bool) := if (l0.length : Int) = (l1.length : Int) then (laws_sameLists.l0 k l0 l1 0) else (some false)
theorem laws_sameLists.mono_l : ∀ k, (∀ y0 y1 y2, LeO (laws_sameLists.l0 k y0 y1 y2) (laws_sameLists.l0 (k + 1) y0 y1 y2))
  | 0 => fun _ _ _ r h => by simp [laws_sameLists.l0] at h
  | k + 1 => by
    have ih0 := laws_sameLists.mono_l k
    · intro y0 y1 y2
      unfold laws_sameLists.l0
      repeat' first
      | (with_reducible exact ih0 _ _ _)
      | (with_reducible exact laws_sameInts.mono _ _ _)
      | (with_reducible exact LeO.refl _)
      | (with_reducible exact LeO.none _)
      | (with_reducible refine LeO.ite ?_ ?_)
      | (with_reducible refine LeO.bind ?_ (fun _ => ?_))
      | exact ih0 _ _ _
      | exact laws_sameInts.mono _ _ _
      | exact LeO.none _
      | refine LeO.ite ?_ ?_
      | refine LeO.bind ?_ (fun _ => ?_)
theorem laws_sameLists.mono : ∀ a0 a1 k, LeO (laws_sameLists.f k a0 a1) (laws_sameLists.f (k + 1) a0 a1) := by
  intro a0 a1 k
  have ih0 := laws_sameLists.mono_l k
  unfold laws_sameLists.f
  repeat' first
      | (with_reducible exact ih0 _ _ _)
      | (with_reducible exact laws_sameInts.mono _ _ _)
      | (with_reducible exact LeO.refl _)
      | (with_reducible exact LeO.none _)
      | (with_reducible refine LeO.ite ?_ ?_)
      | (with_reducible refine LeO.bind ?_ (fun _ => ?_))
      | exact ih0 _ _ _
      | exact laws_sameInts.mono _ _ _
      | exact LeO.none _
      | refine LeO.ite ?_ ?_
      | refine LeO.bind ?_ (fun _ => ?_)
set_option maxHeartbeats 8000000 in
set_option maxRecDepth 100000 in
theorem laws_sameLists.calls (k : Nat) (A0 : Option Addr) (c0 : Nat) (l0 : List (List Int)) (A1 : Option Addr) (c1 : Nat) (l1 : List (List Int)) (r : Bool) (w : World) (hr0 : Kd.C (Kd.slice 3 (Kd.int .i64)) w A0 l0.length l0) (hc0 : l0.length ≤ c0) (hr1 : Kd.C (Kd.slice 3 (Kd.int .i64)) w A1 l1.length l1) (hc1 : l1.length ≤ c1) (h : laws_sameLists.f k l0 l1 = some r) :
    Calls Try.prog 30 #[.slice A0 l0.length c0, .slice A1 l1.length c1] w fun e w' => e = .returned (.bool r) ∧ Drawn0 w w' := by
  have HR0 := Aside0.mk hr0; have HC0 := Aside0.mk hc0; clear hr0 hc0; have HR1 := Aside0.mk hr1; have HC1 := Aside0.mk hc1; clear hr1 hc1; unfold laws_sameLists.f at h; have H := h; clear h
  by_cases c3 : (l0.length : Int) = (l1.length : Int)
  · rw [if_pos c3] at H
    have c3b0 : ((l0.length : Int) == (l1.length : Int)) = true := beq_iff_eq.mpr c3; have c3b1 : ((l0.length : Int) != (l1.length : Int)) = false := bne_eq_false_iff_eq.mpr c3
    have c3b2 : (l0.length == l1.length) = true := by first | simpa using c3 | (simp at c3 ⊢; omega)
    clear c3; have H' := Aside0.mk H; clear H; go_enter Try.func30, Try.ntmps30
    go_wp2
    repeat (go_quiet (fail); try go_wp2)
    go_loopg [5] k (fun kq v5 w' => ∃ (x5_1 : Int), v5 = .int .i64 x5_1 ∧ Aside0 (laws_sameLists.l0 kq l0 l1 x5_1 = some r) ∧ Aside0 (kq ≤ k) ∧ Drawn0 w w')
    case atStart => exact ⟨(0), sR, H', ⟨Nat.le_refl _⟩, by repeat (first | exact Drawn0.refl _ | apply Drawn0.step)⟩
    case round =>
      clear H'; (try clear c3); (try clear c3b0); (try clear c3b1); (try clear c3b2); obtain ⟨x5_1, rfl, HA, HK1, ⟨m1, rfl⟩⟩ := hrel; cases gk with
      | zero => exact absurd HA.out (by simp [laws_sameLists.l0])
      | succ k1 =>
        have H := HA.out; clear HA; simp only [laws_sameLists.l0] at H
        by_cases c4 : x5_1 < (l0.length : Int)
        · rw [if_pos c4] at H
          have c4b0 : decide (x5_1 < (l0.length : Int)) = true := decide_eq_true c4; clear c4; obtain ⟨c5, H⟩ := ifN H; have c5b0 : decide (0 ≤ x5_1) = true := decide_eq_true c5; clear c5; obtain ⟨c6, H⟩ := ifN H; have c6b0 : decide (x5_1 < (l1.length : Int)) = true := decide_eq_true c6; clear c6; obtain ⟨t417, A7, H⟩ := bnd H
          by_cases c8 : t417 = true
          · subst c8
            replace H := ifT H; have H' := Aside0.mk H; clear H; have p415 : 0 ≤ (x5_1 : Int) := oD; have q415 : x5_1 < (l0.length : Int) := oD; obtain ⟨ad415, A415_0, c415_0, e415, hx415_0, hl415_0, hi415_0⟩ := at_L1 HR0.out x5_1 p415 q415; cases e415; have HR415_0 := Aside0.mk hi415_0; have HC415_0 := Aside0.mk hl415_0; clear hi415_0 hl415_0; replace p415 := eq_true p415; replace q415 := eq_true q415; have p416 : 0 ≤ (x5_1 : Int) := oD; have q416 : x5_1 < (l1.length : Int) := oD; obtain ⟨ad416, A416_0, c416_0, e416, hx416_0, hl416_0, hi416_0⟩ := at_L1 HR1.out x5_1 p416 q416; cases e416; have HR416_0 := Aside0.mk hi416_0; have HC416_0 := Aside0.mk hl416_0; clear hi416_0 hl416_0; replace p416 := eq_true p416; replace q416 := eq_true q416
            go_wp2_with (first | (go_at_call 25; (with_reducible refine (laws_sameInts.calls k1 _ _ (rd_L1 l0 x5_1) _ _ (rd_L1 l1 x5_1) true _ ?side1 ?side2 ?side3 ?side4 A7.out).mono ?_); (case side1 => exact U HR415_0.out); (case side2 => exact HC415_0.out); (case side3 => exact U HR416_0.out); (case side4 => exact HC416_0.out); rintro e w' ⟨rfl, ⟨nd, rfl⟩⟩; (try first | exact ⟨rfl, _, World.drewN_drewN _ _ _⟩ | exact ⟨rfl, _, Eq.trans (World.drewN_drewN _ _ _) (congrArg (World.drewN _) (Nat.add_assoc _ _ _))⟩)))
            repeat (go_quiet (first | (go_at_call 25; (with_reducible refine (laws_sameInts.calls k1 _ _ (rd_L1 l0 x5_1) _ _ (rd_L1 l1 x5_1) true _ ?side1 ?side2 ?side3 ?side4 A7.out).mono ?_); (case side1 => exact U HR415_0.out); (case side2 => exact HC415_0.out); (case side3 => exact U HR416_0.out); (case side4 => exact HC416_0.out); rintro e w' ⟨rfl, ⟨nd, rfl⟩⟩; (try first | exact ⟨rfl, _, World.drewN_drewN _ _ _⟩ | exact ⟨rfl, _, Eq.trans (World.drewN_drewN _ _ _) (congrArg (World.drewN _) (Nat.add_assoc _ _ _))⟩))); try go_wp2_with (first | (go_at_call 25; (with_reducible refine (laws_sameInts.calls k1 _ _ (rd_L1 l0 x5_1) _ _ (rd_L1 l1 x5_1) true _ ?side1 ?side2 ?side3 ?side4 A7.out).mono ?_); (case side1 => exact U HR415_0.out); (case side2 => exact HC415_0.out); (case side3 => exact U HR416_0.out); (case side4 => exact HC416_0.out); rintro e w' ⟨rfl, ⟨nd, rfl⟩⟩; (try first | exact ⟨rfl, _, World.drewN_drewN _ _ _⟩ | exact ⟨rfl, _, Eq.trans (World.drewN_drewN _ _ _) (congrArg (World.drewN _) (Nat.add_assoc _ _ _))⟩))))
            go_roundg k1
            case measure => have := HK1.out; omega
            case rel => exact ⟨(wrap64 (x5_1 + 1)), sR, H', ⟨by have := HK1.out; omega⟩, by repeat (first | exact Drawn0.refl _ | apply Drawn0.step)⟩
          replace c8 := Bool.eq_false_iff.mpr c8; subst c8; replace H := ifF H; obtain rfl := Option.some.inj H; have p415 : 0 ≤ (x5_1 : Int) := oD; have q415 : x5_1 < (l0.length : Int) := oD; obtain ⟨ad415, A415_0, c415_0, e415, hx415_0, hl415_0, hi415_0⟩ := at_L1 HR0.out x5_1 p415 q415; cases e415; have HR415_0 := Aside0.mk hi415_0; have HC415_0 := Aside0.mk hl415_0; clear hi415_0 hl415_0; replace p415 := eq_true p415; replace q415 := eq_true q415; have p416 : 0 ≤ (x5_1 : Int) := oD; have q416 : x5_1 < (l1.length : Int) := oD; obtain ⟨ad416, A416_0, c416_0, e416, hx416_0, hl416_0, hi416_0⟩ := at_L1 HR1.out x5_1 p416 q416; cases e416; have HR416_0 := Aside0.mk hi416_0; have HC416_0 := Aside0.mk hl416_0; clear hi416_0 hl416_0; replace p416 := eq_true p416; replace q416 := eq_true q416
          go_wp2_with (first | (go_at_call 25; (with_reducible refine (laws_sameInts.calls k1 _ _ (rd_L1 l0 x5_1) _ _ (rd_L1 l1 x5_1) false _ ?side1 ?side2 ?side3 ?side4 A7.out).mono ?_); (case side1 => exact U HR415_0.out); (case side2 => exact HC415_0.out); (case side3 => exact U HR416_0.out); (case side4 => exact HC416_0.out); rintro e w' ⟨rfl, ⟨nd, rfl⟩⟩; (try first | exact ⟨rfl, _, World.drewN_drewN _ _ _⟩ | exact ⟨rfl, _, Eq.trans (World.drewN_drewN _ _ _) (congrArg (World.drewN _) (Nat.add_assoc _ _ _))⟩)))
          repeat (go_quiet (first | (go_at_call 25; (with_reducible refine (laws_sameInts.calls k1 _ _ (rd_L1 l0 x5_1) _ _ (rd_L1 l1 x5_1) false _ ?side1 ?side2 ?side3 ?side4 A7.out).mono ?_); (case side1 => exact U HR415_0.out); (case side2 => exact HC415_0.out); (case side3 => exact U HR416_0.out); (case side4 => exact HC416_0.out); rintro e w' ⟨rfl, ⟨nd, rfl⟩⟩; (try first | exact ⟨rfl, _, World.drewN_drewN _ _ _⟩ | exact ⟨rfl, _, Eq.trans (World.drewN_drewN _ _ _) (congrArg (World.drewN _) (Nat.add_assoc _ _ _))⟩))); try go_wp2_with (first | (go_at_call 25; (with_reducible refine (laws_sameInts.calls k1 _ _ (rd_L1 l0 x5_1) _ _ (rd_L1 l1 x5_1) false _ ?side1 ?side2 ?side3 ?side4 A7.out).mono ?_); (case side1 => exact U HR415_0.out); (case side2 => exact HC415_0.out); (case side3 => exact U HR416_0.out); (case side4 => exact HC416_0.out); rintro e w' ⟨rfl, ⟨nd, rfl⟩⟩; (try first | exact ⟨rfl, _, World.drewN_drewN _ _ _⟩ | exact ⟨rfl, _, Eq.trans (World.drewN_drewN _ _ _) (congrArg (World.drewN _) (Nat.add_assoc _ _ _))⟩))))
          go_ret
          exact ⟨by first | rfl | (simp; done) | (simp [*]; done), by repeat (first | exact Drawn0.refl _ | apply Drawn0.step)⟩
        rw [if_neg c4] at H; have c4b0 : decide (x5_1 < (l0.length : Int)) = false := decide_eq_false c4; clear c4; obtain rfl := Option.some.inj H
        go_wp2
        repeat (go_quiet (fail); try go_wp2)
        go_ret
        exact ⟨by first | rfl | (simp; done) | (simp [*]; done), by repeat (first | exact Drawn0.refl _ | apply Drawn0.step)⟩
  rw [if_neg c3] at H; have c3b0 : ((l0.length : Int) == (l1.length : Int)) = false := beq_eq_false_iff_ne.mpr c3; have c3b1 : ((l0.length : Int) != (l1.length : Int)) = true := bne_iff_ne.mpr c3
  have c3b2 : (l0.length == l1.length) = false := by first | simpa using c3 | (simp at c3 ⊢; omega)
  obtain rfl := Option.some.inj H; go_enter Try.func30, Try.ntmps30
  go_wp2
  repeat (go_quiet (fail); try go_wp2)
  go_ret
  exact ⟨by first | rfl | (simp; done) | (simp [*]; done), by repeat (first | exact Drawn0.refl _ | apply Drawn0.step)⟩

/-! ### impl_lessTerms: function 79 -/
def impl_lessTerms.l0 : Nat → Int → List Int → Int → Int → Option (Int)
  | 0, _, _, _, _ => none
  | k + 1, x3, x6, x7, x8 => if x8 < x7 then (if 0 ≤ x8 then (if x8 < (x6.length : Int) then (if (rd x6 x8) < 0 then (impl_lessTerms.l0 k (wrap64 (x3 + 1)) x6 x7 (wrap64 (x8 + 1))) else (impl_lessTerms.l0 k x3 x6 x7 (wrap64 (x8 + 1)))) else (none)) else (none)) else (some x3)
def impl_lessTerms.f (k : Nat) (l0 : List Int) : Option (Int) := impl_lessTerms.l0 k 0 l0 (l0.length : Int) 0
theorem impl_lessTerms.mono_l : ∀ k, (∀ y0 y1 y2 y3, LeO (impl_lessTerms.l0 k y0 y1 y2 y3) (impl_lessTerms.l0 (k + 1) y0 y1 y2 y3))
  | 0 => fun _ _ _ _ r h => by simp [impl_lessTerms.l0] at h
  | k + 1 => by
    have ih0 := impl_lessTerms.mono_l k
    · intro y0 y1 y2 y3
      unfold impl_lessTerms.l0
      repeat' first
      | (with_reducible exact ih0 _ _ _ _)
      | (with_reducible exact LeO.refl _)
      | (with_reducible exact LeO.none _)
      | (with_reducible refine LeO.ite ?_ ?_)
      | (with_reducible refine LeO.bind ?_ (fun _ => ?_))
      | exact ih0 _ _ _ _
      | exact LeO.none _
      | refine LeO.ite ?_ ?_
      | refine LeO.bind ?_ (fun _ => ?_)
theorem impl_lessTerms.mono : ∀ a0 k, LeO (impl_lessTerms.f k a0) (impl_lessTerms.f (k + 1) a0) := by
  intro a0 k
  have ih0 := impl_lessTerms.mono_l k
  unfold impl_lessTerms.f
  repeat' first
      | (with_reducible exact ih0 _ _ _ _)
      | (with_reducible exact LeO.refl _)
      | (with_reducible exact LeO.none _)
      | (with_reducible refine LeO.ite ?_ ?_)
      | (with_reducible refine LeO.bind ?_ (fun _ => ?_))
      | exact ih0 _ _ _ _
      | exact LeO.none _
      | refine LeO.ite ?_ ?_
      | refine LeO.bind ?_ (fun _ => ?_)
set_option maxHeartbeats 8000000 in
set_option maxRecDepth 100000 in
theorem impl_lessTerms.calls (k : Nat) (A0 : Option Addr) (c0 : Nat) (l0 : List Int) (r : Int) (w : World) (hr0 : Kd.C (Kd.int .i64) w A0 l0.length l0) (hc0 : l0.length ≤ c0) (h : impl_lessTerms.f k l0 = some r) :
    Calls Try.prog 79 #[.slice A0 l0.length c0] w fun e w' => e = .returned (.int .i64 r) ∧ Drawn0 w w' := by
  have HR0 := Aside0.mk hr0; have HC0 := Aside0.mk hc0; clear hr0 hc0; unfold impl_lessTerms.f at h; have H := h; clear h; have H' := Aside0.mk H; clear H; go_enter Try.func79, Try.ntmps79
  go_wp2
  go_loopg [3, 8] k (fun kq v3 v8 w' => ∃ (x3_1 : Int) (x8_1 : Int), v3 = .int .i64 x3_1 ∧ v8 = .int .i64 x8_1 ∧ Aside0 (impl_lessTerms.l0 kq x3_1 l0 (l0.length : Int) x8_1 = some r) ∧ Aside0 (kq ≤ k) ∧ Drawn0 w w')
  case atStart => exact ⟨(0), (0), sR, sR, H', ⟨Nat.le_refl _⟩, by repeat (first | exact Drawn0.refl _ | apply Drawn0.step)⟩
  case round =>
    clear H'; obtain ⟨x3_1, x8_1, rfl, rfl, HA, HK1, ⟨m1, rfl⟩⟩ := hrel; cases gk with
    | zero => exact absurd HA.out (by simp [impl_lessTerms.l0])
    | succ k1 =>
      have H := HA.out; clear HA; simp only [impl_lessTerms.l0] at H
      by_cases c2 : x8_1 < (l0.length : Int)
      · rw [if_pos c2] at H
        have c2b0 : decide (x8_1 < (l0.length : Int)) = true := decide_eq_true c2; clear c2; obtain ⟨c3, H⟩ := ifN H; have c3b0 : decide (0 ≤ x8_1) = true := decide_eq_true c3; clear c3; obtain ⟨c4, H⟩ := ifN H; have c4b0 : decide (x8_1 < (l0.length : Int)) = true := decide_eq_true c4; clear c4
        by_cases c5 : (rd l0 x8_1) < 0
        · rw [if_pos c5] at H
          have c5b0 : decide ((rd l0 x8_1) < 0) = true := decide_eq_true c5; clear c5; have H' := Aside0.mk H; clear H; have p418 : 0 ≤ (x8_1 : Int) := oD; have q418 : x8_1 < (l0.length : Int) := oD; obtain ⟨ad418, e418, hx418_0⟩ := Kd.at_int HR0.out x8_1 p418 q418; cases e418; replace p418 := eq_true p418; replace q418 := eq_true q418
          go_wp2
          go_roundg k1
          case measure => have := HK1.out; omega
          case rel => exact ⟨(wrap64 (x3_1 + 1)), (wrap64 (x8_1 + 1)), sR, sR, H', ⟨by have := HK1.out; omega⟩, by repeat (first | exact Drawn0.refl _ | apply Drawn0.step)⟩
        rw [if_neg c5] at H; have c5b0 : decide ((rd l0 x8_1) < 0) = false := decide_eq_false c5; clear c5; have H' := Aside0.mk H; clear H; have p418 : 0 ≤ (x8_1 : Int) := oD; have q418 : x8_1 < (l0.length : Int) := oD; obtain ⟨ad418, e418, hx418_0⟩ := Kd.at_int HR0.out x8_1 p418 q418; cases e418; replace p418 := eq_true p418; replace q418 := eq_true q418
        go_wp2
        go_roundg k1
        case measure => have := HK1.out; omega
        case rel => exact ⟨(x3_1), (wrap64 (x8_1 + 1)), sR, sR, H', ⟨by have := HK1.out; omega⟩, by repeat (first | exact Drawn0.refl _ | apply Drawn0.step)⟩
      rw [if_neg c2] at H; have c2b0 : decide (x8_1 < (l0.length : Int)) = false := decide_eq_false c2; clear c2; obtain rfl := Option.some.inj H
      go_wp2
      go_ret
      exact ⟨by first | rfl | (simp; done) | (simp [*]; done), by repeat (first | exact Drawn0.refl _ | apply Drawn0.step)⟩

/-! ### impl_FormSigns: function 31 -/
def impl_FormSigns.f (k : Nat) (l0 : List Int) : Option (Int × Bool) := (impl_FormValid.f k l0).bind fun t419 => (if t419 = true then ((impl_lessTerms.f k l0).bind fun t420 => (some (wrap64 ((l0.length : Int) - (wrap64 (2 * t420))), true))) else (some (0, false)))
theorem impl_FormSigns.mono : ∀ a0 k, LeO (impl_FormSigns.f k a0) (impl_FormSigns.f (k + 1) a0) := by
  intro a0 k
  unfold impl_FormSigns.f
  repeat' first
      | (with_reducible exact impl_FormValid.mono _ _)
      | (with_reducible exact impl_lessTerms.mono _ _)
      | (with_reducible exact LeO.refl _)
      | (with_reducible exact LeO.none _)
      | (with_reducible refine LeO.ite ?_ ?_)
      | (with_reducible refine LeO.bind ?_ (fun _ => ?_))
      | exact impl_FormValid.mono _ _
      | exact impl_lessTerms.mono _ _
      | exact LeO.none _
      | refine LeO.ite ?_ ?_
      | refine LeO.bind ?_ (fun _ => ?_)
set_option maxHeartbeats 8000000 in
set_option maxRecDepth 100000 in
theorem impl_FormSigns.calls (k : Nat) (A0 : Option Addr) (c0 : Nat) (l0 : List Int) (r1 : Int) (r2 : Bool) (w : World) (hr0 : Kd.C (Kd.int .i64) w A0 l0.length l0) (hc0 : l0.length ≤ c0) (h : impl_FormSigns.f k l0 = some (r1, r2)) :
    Calls Try.prog 31 #[.slice A0 l0.length c0] w fun e w' => e = .returned (.tuple #[.int .i64 r1, .bool r2]) ∧ Below w.heap.size w w' := by
  have HR0 := Aside0.mk hr0; have HC0 := Aside0.mk hc0; clear hr0 hc0; have HB := Aside0.mk (Below.refl w.heap.size w); unfold impl_FormSigns.f at h; have H := h; clear h; obtain ⟨t419, A2, H⟩ := bnd H
  by_cases c3 : t419 = true
  · subst c3
    replace H := ifT H; obtain ⟨t420, A4, H⟩ := bnd H; simp only [Option.some.injEq, Prod.mk.injEq] at H; obtain ⟨rfl, rfl⟩ := H; go_enter Try.func31, Try.ntmps31
    go_wp2_with (first | ((with_reducible refine gate_callee (f := 52) rfl ?_); refine goesK (some 5) Try.func52 #[.slice A0 l0.length c0] ?_; (with_reducible refine (impl_FormValid.calls k _ _ l0 true _ ?side1 ?side2 A2.out).mono ?_); (case side1 => exact U HR0.out); (case side2 => exact HC0.out); rintro e w5 ⟨rfl, hb⟩; refine ⟨_, rfl, ?_⟩; replace HB := BS hb; (try clear hb)) | ((with_reducible refine gate_callee (f := 79) rfl ?_); refine goesK (some 10) Try.func79 #[.slice A0 l0.length c0] ?_; (with_reducible refine (impl_lessTerms.calls k _ _ l0 t420 _ ?side1 ?side2 A4.out).mono ?_); (case side1 => exact U (Kd.C_below HR0.out HB.out)); (case side2 => exact HC0.out); rintro e w' ⟨rfl, ⟨nd, rfl⟩⟩; refine ⟨_, rfl, ?_⟩))
    go_ret2
    exact ⟨eR, BU⟩
  replace c3 := Bool.eq_false_iff.mpr c3; subst c3; replace H := ifF H; simp only [Option.some.injEq, Prod.mk.injEq] at H; obtain ⟨rfl, rfl⟩ := H; go_enter Try.func31, Try.ntmps31
  go_wp2_with (first | ((with_reducible refine gate_callee (f := 52) rfl ?_); refine goesK (some 5) Try.func52 #[.slice A0 l0.length c0] ?_; (with_reducible refine (impl_FormValid.calls k _ _ l0 false _ ?side1 ?side2 A2.out).mono ?_); (case side1 => exact U HR0.out); (case side2 => exact HC0.out); rintro e w6 ⟨rfl, hb⟩; refine ⟨_, rfl, ?_⟩; replace HB := BS hb; (try clear hb)))
  go_ret2
  exact ⟨eR, BU⟩

/-! ### laws_sizeOf: function 32 -/
def laws_sizeOf.f (a0 : Int) : Option (Int) := some (mx a0 (wrap64 (-a0)))
set_option maxHeartbeats 8000000 in
set_option maxRecDepth 100000 in
theorem laws_sizeOf.calls (a0 : Int) (r : Int) (w : World) (h : laws_sizeOf.f a0 = some r) :
    Calls Try.prog 32 #[.int .i64 a0] w fun e w' => e = .returned (.int .i64 r) ∧ Below w.heap.size w w' := by
  have HB := Aside0.mk (Below.refl w.heap.size w); unfold laws_sizeOf.f at h; have H := h; clear h; obtain ⟨ji2, hji2⟩ : ∃ j_ : Int, (mx a0 (wrap64 (-a0))) = j_ := ⟨_, rfl⟩
  replace H : (some ji2) = some r := by first | (rw [hji2] at H; exact H) | (simp only [hji2] at H ⊢; exact H)
  have hji2_ : (if a0 < (wrap64 (-a0)) then (wrap64 (-a0)) else a0) = ji2 := hji2; obtain rfl := Option.some.inj H; go_enter Try.func32, Try.ntmps32
  go_wp2
  go_ret
  exact ⟨by first | rfl | (simp [errW_none, errW_some] <;> rfl) | (simp only [← hji2]; first | rfl | (simp [errW_none, errW_some] <;> rfl)) | (simp [*, errW_none, errW_some] <;> rfl), BU⟩

end Go.Proofs.Ytnbeeogmaamgdaa.PFnCarry
