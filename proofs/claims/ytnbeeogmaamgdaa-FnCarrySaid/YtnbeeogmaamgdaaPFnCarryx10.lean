-- Written by a program of this session (wip/print2.py): the functions that the law reaches, plain, and the walks.
import Derived.Test.YtnbeeogmaamgdaaPFnCarryx0
import Derived.Test.YtnbeeogmaamgdaaPFnCarryx1
import Derived.Test.YtnbeeogmaamgdaaPFnCarryx9
namespace Go.Proofs.Ytnbeeogmaamgdaa.PFnCarry
open Go.RowKit Go.Proofs.YtnbeeogmaamgdaaW.PrintWords Go.Proofs.YtnbeeogmaamgdaaW.PrintLast Go.Proofs.YtnbeeogmaamgdaaW.PrintMore
attribute [local go_sem] max2_int min2_int max_two min_two max_three min_three max_four min_four   -- for this text's walks alone
set_option linter.unusedVariables false
set_option linter.unusedSimpArgs false

/-! ### impl_MoveCarry: function 28 -/
mutual
def impl_MoveCarry.j0 : Nat → List Int → List Int → List Int → Bool → Option ((List (List Int)) × Bool)
  | 0, _, _, _, _ => none
  | k + 1, x0, x1, x2, x29 => if x29 = true then (some (([] : List (List Int)), false)) else ((impl_pair.f k x0 x1 x1).bind fun t319 => (if t319 = 0 then (impl_MoveCarry.j1 k x0 x1 x2 true) else ((impl_pair.f k x0 x2 x2).bind fun t320 => (impl_MoveCarry.j1 k x0 x1 x2 (t319 != t320)))))
def impl_MoveCarry.j1 : Nat → List Int → List Int → List Int → Bool → Option ((List (List Int)) × Bool)
  | 0, _, _, _, _ => none
  | k + 1, x0, x1, x2, x43 => if x43 = true then (some (([] : List (List Int)), false)) else ((slices_Equal_int_int.f k x1 x2).bind fun t321 => (if t321 = true then (some ((([] : List (List Int))), true)) else ((impl_combined.f k x1 (-1) x2).bind fun t325 => ((impl_pair.f k x0 t325 t325).bind fun t328 => (if t328 = 0 then ((impl_combined.f k x1 1 x2).bind fun t329 => ((impl_plain.f k t329).bind fun t332 => ((impl_plain.f k x2).bind fun t335 => (some ((([t332, t335] : List (List Int))), true))))) else ((impl_plain.f k t325).bind fun t341 => (some ((([t341] : List (List Int))), true))))))))
end
def impl_MoveCarry.f (k : Nat) (l0 : List Int) (l1 : List Int) (l2 : List Int) : Option ((List (List Int)) × Bool) := (impl_FormValid.f k l0).bind fun t316 => (if t316 = true then (if (l0.length : Int) > 3 then (impl_MoveCarry.j0 k l0 l1 l2 true) else ((impl_vectorOk.f k l0 l1 500).bind fun t317 => (if t317 = true then ((impl_vectorOk.f k l0 l2 500).bind fun t318 => (impl_MoveCarry.j0 k l0 l1 l2 (!t318))) else (impl_MoveCarry.j0 k l0 l1 l2 true)))) else (impl_MoveCarry.j0 k l0 l1 l2 true))
theorem impl_MoveCarry.mono_l : ∀ k, (∀ y0 y1 y2 y3, LeO (impl_MoveCarry.j0 k y0 y1 y2 y3) (impl_MoveCarry.j0 (k + 1) y0 y1 y2 y3)) ∧ (∀ y0 y1 y2 y3, LeO (impl_MoveCarry.j1 k y0 y1 y2 y3) (impl_MoveCarry.j1 (k + 1) y0 y1 y2 y3))
  | 0 => ⟨fun _ _ _ _ r h => by simp [impl_MoveCarry.j0] at h, fun _ _ _ _ r h => by simp [impl_MoveCarry.j1] at h⟩
  | k + 1 => by
    obtain ⟨ih0, ih1⟩ := impl_MoveCarry.mono_l k
    refine ⟨?_, ?_⟩ <;> intros <;> (first | unfold impl_MoveCarry.j0 | unfold impl_MoveCarry.j1) <;> (repeat' first
      | (with_reducible exact ih0 _ _ _ _)
      | (with_reducible exact ih1 _ _ _ _)
      | (with_reducible exact impl_FormValid.mono _ _)
      | (with_reducible exact impl_combined.mono _ _ _ _)
      | (with_reducible exact impl_pair.mono _ _ _ _)
      | (with_reducible exact impl_plain.mono _ _)
      | (with_reducible exact impl_vectorOk.mono _ _ _ _)
      | (with_reducible exact slices_Equal_int_int.mono _ _ _)
      | (with_reducible exact LeO.refl _)
      | (with_reducible exact LeO.none _)
      | (with_reducible refine LeO.ite ?_ ?_)
      | (with_reducible refine LeO.bind ?_ (fun _ => ?_))
      | exact ih0 _ _ _ _
      | exact ih1 _ _ _ _
      | exact impl_FormValid.mono _ _
      | exact impl_combined.mono _ _ _ _
      | exact impl_pair.mono _ _ _ _
      | exact impl_plain.mono _ _
      | exact impl_vectorOk.mono _ _ _ _
      | exact slices_Equal_int_int.mono _ _ _
      | exact LeO.none _
      | refine LeO.ite ?_ ?_
      | refine LeO.bind ?_ (fun _ => ?_))
theorem impl_MoveCarry.mono : ∀ a0 a1 a2 k, LeO (impl_MoveCarry.f k a0 a1 a2) (impl_MoveCarry.f (k + 1) a0 a1 a2) := by
  intro a0 a1 a2 k
  obtain ⟨ih0, ih1⟩ := impl_MoveCarry.mono_l k
  unfold impl_MoveCarry.f
  repeat' first
      | (with_reducible exact ih0 _ _ _ _)
      | (with_reducible exact ih1 _ _ _ _)
      | (with_reducible exact impl_FormValid.mono _ _)
      | (with_reducible exact impl_combined.mono _ _ _ _)
      | (with_reducible exact impl_pair.mono _ _ _ _)
      | (with_reducible exact impl_plain.mono _ _)
      | (with_reducible exact impl_vectorOk.mono _ _ _ _)
      | (with_reducible exact slices_Equal_int_int.mono _ _ _)
      | (with_reducible exact LeO.refl _)
      | (with_reducible exact LeO.none _)
      | (with_reducible refine LeO.ite ?_ ?_)
      | (with_reducible refine LeO.bind ?_ (fun _ => ?_))
      | exact ih0 _ _ _ _
      | exact ih1 _ _ _ _
      | exact impl_FormValid.mono _ _
      | exact impl_combined.mono _ _ _ _
      | exact impl_pair.mono _ _ _ _
      | exact impl_plain.mono _ _
      | exact impl_vectorOk.mono _ _ _ _
      | exact slices_Equal_int_int.mono _ _ _
      | exact LeO.none _
      | refine LeO.ite ?_ ?_
      | refine LeO.bind ?_ (fun _ => ?_)
set_option maxHeartbeats 8000000 in
set_option maxRecDepth 100000 in
theorem impl_MoveCarry.calls (k : Nat) (A0 : Option Addr) (c0 : Nat) (l0 : List Int) (A1 : Option Addr) (c1 : Nat) (l1 : List Int) (A2 : Option Addr) (c2 : Nat) (l2 : List Int) (r1 : List (List Int)) (r2 : Bool) (w : World) (hr0 : Kd.C (Kd.int .i64) w A0 l0.length l0) (hc0 : l0.length ≤ c0) (hr1 : Kd.C (Kd.int .i64) w A1 l1.length l1) (hc1 : l1.length ≤ c1) (hr2 : Kd.C (Kd.int .i64) w A2 l2.length l2) (hc2 : l2.length ≤ c2) (h : impl_MoveCarry.f k l0 l1 l2 = some (r1, r2)) :
    Calls Try.prog 28 #[.slice A0 l0.length c0, .slice A1 l1.length c1, .slice A2 l2.length c2] w fun e w' => ∃ v0_ : Value, e = .returned (.tuple #[v0_, .bool r2]) ∧ Kd.N (Kd.slice 3 (Kd.int .i64)) 23 w' w.heap.size (fun k_ => (w.heap.size ≤ k_)) v0_ r1 ∧ Below w.heap.size w w' := by
  have HR0 := Aside0.mk hr0; have HC0 := Aside0.mk hc0; clear hr0 hc0; have HR1 := Aside0.mk hr1; have HC1 := Aside0.mk hc1; clear hr1 hc1; have HR2 := Aside0.mk hr2; have HC2 := Aside0.mk hc2; clear hr2 hc2; have HB := Aside0.mk (Below.refl w.heap.size w); unfold impl_MoveCarry.f at h; have H := h; clear h; have HC4 := Aside0.mk H; clear H; go_enter Try.func28, Try.ntmps28
  go_upto_region 1 with (fail)
  go_cut [29] (fun v29 wc => ∃ (kq : Nat) (x29_3 : Bool), v29 = .bool x29_3 ∧ Aside0 (impl_MoveCarry.j0 kq l0 l1 l2 x29_3 = some (r1, r2)) ∧ Aside0 (kq ≤ k) ∧ Aside0 (Below w.heap.size w wc))
  case first =>
    have H := HC4.out; clear HC4; obtain ⟨t316, A5, H⟩ := bnd H
    by_cases c6 : t316 = true
    · subst c6
      replace H := ifT H
      by_cases c7 : (l0.length : Int) > 3
      · rw [if_pos c7] at H
        have c7b0 : decide (3 < (l0.length : Int)) = true := decide_eq_true c7; have c7b1 : decide (3 < l0.length) = true := decide_eq_true (by omega); clear c7
        (first | rw [c7b0] | (simp only [i64_w, i32_w]; rw [c7b0]) | skip)
        have H' := Aside0.mk H; clear H
        go_wp2_with (first | ((with_reducible refine gate_callee (f := 52) rfl ?_); refine goesK (some 11) Try.func52 #[.slice A0 l0.length c0] ?_; (with_reducible refine (impl_FormValid.calls k _ _ l0 true _ ?side1 ?side2 A5.out).mono ?_); (case side1 => exact U (Kd.C_below HR0.out HB.out)); (case side2 => exact HC0.out); rintro e w8 ⟨rfl, hb⟩; refine ⟨_, rfl, ?_⟩; replace HB := BS hb; (try clear hb)))
        go_meet
        case rel => exact ⟨_, (true), sR, H', ⟨oR⟩, ⟨BU⟩⟩
      rw [if_neg c7] at H; have c7b0 : decide (3 < (l0.length : Int)) = false := decide_eq_false c7; have c7b1 : decide (3 < l0.length) = false := decide_eq_false (by omega); clear c7
      (first | rw [c7b0] | (simp only [i64_w, i32_w]; rw [c7b0]) | skip)
      obtain ⟨t317, A9, H⟩ := bnd H
      by_cases c10 : t317 = true
      · subst c10
        replace H := ifT H; obtain ⟨t318, A11, H⟩ := bnd H; have H' := Aside0.mk H; clear H
        go_wp2_with (first | ((with_reducible refine gate_callee (f := 52) rfl ?_); refine goesK (some 11) Try.func52 #[.slice A0 l0.length c0] ?_; (with_reducible refine (impl_FormValid.calls k _ _ l0 true _ ?side1 ?side2 A5.out).mono ?_); (case side1 => exact U (Kd.C_below HR0.out HB.out)); (case side2 => exact HC0.out); rintro e w12 ⟨rfl, hb⟩; refine ⟨_, rfl, ?_⟩; replace HB := BS hb; (try clear hb)) | (go_at_call 56; (with_reducible refine (impl_vectorOk.calls k _ _ l0 _ _ l1 500 true _ ?side1 ?side2 ?side3 ?side4 A9.out).mono ?_); (case side1 => exact U (Kd.C_below HR0.out HB.out)); (case side2 => exact HC0.out); (case side3 => exact U (Kd.C_below HR1.out HB.out)); (case side4 => exact HC1.out); rintro e w' ⟨rfl, ⟨nd, rfl⟩⟩) | (go_at_call 56; (with_reducible refine (impl_vectorOk.calls k _ _ l0 _ _ l2 500 t318 _ ?side1 ?side2 ?side3 ?side4 A11.out).mono ?_); (case side1 => exact U (Kd.C_below HR0.out BU)); (case side2 => exact HC0.out); (case side3 => exact U (Kd.C_below HR2.out BU)); (case side4 => exact HC2.out); rintro e w' ⟨rfl, ⟨nd, rfl⟩⟩))
        go_meet
        case rel => exact ⟨_, (!t318), sR, H', ⟨oR⟩, ⟨BU⟩⟩
      replace c10 := Bool.eq_false_iff.mpr c10; subst c10; replace H := ifF H; have H' := Aside0.mk H; clear H
      go_wp2_with (first | ((with_reducible refine gate_callee (f := 52) rfl ?_); refine goesK (some 11) Try.func52 #[.slice A0 l0.length c0] ?_; (with_reducible refine (impl_FormValid.calls k _ _ l0 true _ ?side1 ?side2 A5.out).mono ?_); (case side1 => exact U (Kd.C_below HR0.out HB.out)); (case side2 => exact HC0.out); rintro e w13 ⟨rfl, hb⟩; refine ⟨_, rfl, ?_⟩; replace HB := BS hb; (try clear hb)) | (go_at_call 56; (with_reducible refine (impl_vectorOk.calls k _ _ l0 _ _ l1 500 false _ ?side1 ?side2 ?side3 ?side4 A9.out).mono ?_); (case side1 => exact U (Kd.C_below HR0.out HB.out)); (case side2 => exact HC0.out); (case side3 => exact U (Kd.C_below HR1.out HB.out)); (case side4 => exact HC1.out); rintro e w' ⟨rfl, ⟨nd, rfl⟩⟩))
      go_meet
      case rel => exact ⟨_, (true), sR, H', ⟨oR⟩, ⟨BU⟩⟩
    replace c6 := Bool.eq_false_iff.mpr c6; subst c6; replace H := ifF H; have H' := Aside0.mk H; clear H
    go_wp2_with (first | ((with_reducible refine gate_callee (f := 52) rfl ?_); refine goesK (some 11) Try.func52 #[.slice A0 l0.length c0] ?_; (with_reducible refine (impl_FormValid.calls k _ _ l0 false _ ?side1 ?side2 A5.out).mono ?_); (case side1 => exact U (Kd.C_below HR0.out HB.out)); (case side2 => exact HC0.out); rintro e w14 ⟨rfl, hb⟩; refine ⟨_, rfl, ?_⟩; replace HB := BS hb; (try clear hb)))
    go_meet
    case rel => exact ⟨_, (true), sR, H', ⟨oR⟩, ⟨BU⟩⟩
  case rest =>
    clear HC4; obtain ⟨kq, x29_3, rfl, HA, HJ3, HB⟩ := hcut; cases kq with
    | zero => exact absurd HA.out (by simp [impl_MoveCarry.j0])
    | succ kj3 =>
      have H := HA.out; clear HA; simp only [impl_MoveCarry.j0] at H
      by_cases c15 : x29_3 = true
      · subst c15
        replace H := ifT H; simp only [Option.some.injEq, Prod.mk.injEq] at H; obtain ⟨rfl, rfl⟩ := H
        go_wp2
        go_ret2
        exact ⟨_, eR, by first | exact Kd.S_nil _ _ _ _ _ | exact Kd.N_nil _ _ _ _ _ | exact Kd.V_nil _ _ _ _ _ | exact Kd.Q_nil _ _ _ _ _ | exact Kd.R_nil _ _ _ _ _, BU⟩
      replace c15 := Bool.eq_false_iff.mpr c15; subst c15; replace H := ifF H; obtain ⟨t319, A16, H⟩ := bnd H; have HC17 := Aside0.mk H; clear H
      go_upto_region 4 with (first | ((with_reducible refine gate_callee (f := 57) rfl ?_); refine goesK (some 33) Try.func57 #[.slice A0 l0.length c0, .slice A1 l1.length c1, .slice A1 l1.length c1] ?_; (with_reducible refine (impl_pair.calls kj3 _ _ l0 _ _ l1 _ _ l1 t319 _ ?side1 ?side2 ?side3 ?side4 ?side5 ?side6 A16.out).mono ?_); (case side1 => exact U (Kd.C_below HR0.out HB.out)); (case side2 => exact HC0.out); (case side3 => exact U (Kd.C_below HR1.out HB.out)); (case side4 => exact HC1.out); (case side5 => exact U (Kd.C_below HR1.out HB.out)); (case side6 => exact HC1.out); rintro e w' ⟨rfl, ⟨nd, rfl⟩⟩; refine ⟨_, rfl, ?_⟩))
      (try simp only [Act.put, List.setIfInBounds_toArray, List.set_cons_zero, List.set_cons_succ])
      go_cut [43] (fun v43 wc => ∃ (kq : Nat) (x43_16 : Bool), v43 = .bool x43_16 ∧ Aside0 (impl_MoveCarry.j1 kq l0 l1 l2 x43_16 = some (r1, r2)) ∧ Aside0 (kq ≤ kj3) ∧ Aside0 (Below w.heap.size w wc))
      case first =>
        have H := HC17.out; clear HC17
        by_cases c18 : t319 = 0
        · rw [if_pos c18] at H
          have c18b0 : (t319 == 0) = true := beq_iff_eq.mpr c18; have c18b1 : (t319 != 0) = false := bne_eq_false_iff_eq.mpr c18; clear c18
          (first | rw [c18b0] | (simp only [i64_w, i32_w]; rw [c18b0]) | skip)
          have H' := Aside0.mk H; clear H
          go_wp2
          go_meet
          case rel => exact ⟨_, (true), sR, H', ⟨by have := HJ3.out; first | omega | exact Nat.le_refl _⟩, ⟨BU⟩⟩
        rw [if_neg c18] at H; have c18b0 : (t319 == 0) = false := beq_eq_false_iff_ne.mpr c18; have c18b1 : (t319 != 0) = true := bne_iff_ne.mpr c18
        (first | rw [c18b0] | (simp only [i64_w, i32_w]; rw [c18b0]) | skip)
        obtain ⟨t320, A19, H⟩ := bnd H; have H' := Aside0.mk H; clear H
        go_wp2_with (first | (go_at_call 57; (with_reducible refine (impl_pair.calls kj3 _ _ l0 _ _ l2 _ _ l2 t320 _ ?side1 ?side2 ?side3 ?side4 ?side5 ?side6 A19.out).mono ?_); (case side1 => exact U (Kd.C_below HR0.out HB.out)); (case side2 => exact HC0.out); (case side3 => exact U (Kd.C_below HR2.out HB.out)); (case side4 => exact HC2.out); (case side5 => exact U (Kd.C_below HR2.out HB.out)); (case side6 => exact HC2.out); rintro e w' ⟨rfl, ⟨nd, rfl⟩⟩))
        go_meet
        case rel => exact ⟨_, ((t319 != t320)), sR, H', ⟨by have := HJ3.out; first | omega | exact Nat.le_refl _⟩, ⟨BU⟩⟩
      case rest =>
        clear HC17; (try clear c1); (try clear c15); obtain ⟨kq, x43_16, rfl, HA, HJ16, HB⟩ := hcut; cases kq with
        | zero => exact absurd HA.out (by simp [impl_MoveCarry.j1])
        | succ kj16 =>
          have H := HA.out; clear HA; simp only [impl_MoveCarry.j1] at H
          by_cases c20 : x43_16 = true
          · subst c20
            replace H := ifT H; simp only [Option.some.injEq, Prod.mk.injEq] at H; obtain ⟨rfl, rfl⟩ := H
            go_wp2
            go_ret2
            exact ⟨_, eR, by first | exact Kd.S_nil _ _ _ _ _ | exact Kd.N_nil _ _ _ _ _ | exact Kd.V_nil _ _ _ _ _ | exact Kd.Q_nil _ _ _ _ _ | exact Kd.R_nil _ _ _ _ _, BU⟩
          replace c20 := Bool.eq_false_iff.mpr c20; subst c20; replace H := ifF H; obtain ⟨t321, A21, H⟩ := bnd H
          by_cases c22 : t321 = true
          · subst c22
            replace H := ifT H; obtain ⟨y322, hy322⟩ : ∃ y_ : List (List Int), y_ = (([] : List (List Int))) := ⟨_, rfl⟩; replace H : (some (y322, true)) = some (r1, r2) := rH hy322 H; have Ny322 := Aside0.mk hy322; clear hy322; simp only [Option.some.injEq, Prod.mk.injEq] at H; obtain ⟨rfl, rfl⟩ := H
            go_wp2_with (first | ((with_reducible refine gate_callee (f := 72) rfl ?_); refine goesK (some 46) Try.func72 #[.slice A1 l1.length c1, .slice A2 l2.length c2] ?_; (with_reducible refine (slices_Equal_int_int.calls kj16 _ _ l1 _ _ l2 true _ ?side1 ?side2 ?side3 ?side4 A21.out).mono ?_); (case side1 => exact U (Kd.C_below HR1.out HB.out)); (case side2 => exact HC1.out); (case side3 => exact U (Kd.C_below HR2.out HB.out)); (case side4 => exact HC2.out); rintro e w' ⟨rfl, ⟨nd, rfl⟩⟩; refine ⟨_, rfl, ?_⟩) | ((with_reducible refine gate_dst (N := 47) rfl ?_); (try (refine gate_guard (by rfl) ?_; dsimp only)); refine Kd.N_lit (Kd.slice 3 (Kd.int .i64)) _ 23 ?hg (N' := 47) ?hd (xs := ([] : List (List Int))) (inner := []) (ok := (fun k_ => (w.heap.size ≤ k_))) (okp := (fun k_ => (w.heap.size ≤ k_))) ?hr ?hp (fun _ hk => hk) ((show ∀ k_, wc.heap.size ≤ k_ → (fun k_ => (w.heap.size ≤ k_)) k_ from fun k_ hk => (Nat.le_trans (below_size BU) hk)) _ (Nat.le_refl _)) (Below.refl _ _) (Nat.le_refl _) (by simp) ?_; (case hd => rfl); (case hg => rfl); (case hr => first | (go_simp; done) | (go_simp; rfl)); (case hp => exact (Reps.none _ _)); intro v323 w23 ho24 hb hg_ hnew_; clear hg_ hnew_; (first | rw [← Ny322.out] at ho24 | (simp only [Int.reduceToNat] at ho24; rw [← Ny322.out] at ho24)); have HO324 := Aside0.mk (Kd.N_lower ho24 (below_size BU)); replace HB := BS hb; clear hb ho24))
            go_ret2
            exact ⟨_, eR, U HO324.out, BU⟩
          replace c22 := Bool.eq_false_iff.mpr c22; subst c22; replace H := ifF H; obtain ⟨t325, A25, H⟩ := bnd H; obtain ⟨t328, A26, H⟩ := bnd H
          by_cases c27 : t328 = 0
          · rw [if_pos c27] at H
            have c27b0 : (t328 == 0) = true := beq_iff_eq.mpr c27; have c27b1 : (t328 != 0) = false := bne_eq_false_iff_eq.mpr c27; clear c27; obtain ⟨t329, A28, H⟩ := bnd H; obtain ⟨t332, A29, H⟩ := bnd H; obtain ⟨t335, A30, H⟩ := bnd H; obtain ⟨y338, hy338⟩ : ∃ y_ : List (List Int), y_ = (([t332, t335] : List (List Int))) := ⟨_, rfl⟩; replace H : (some (y338, true)) = some (r1, r2) := rH hy338 H; have Ny338 := Aside0.mk hy338; clear hy338; simp only [Option.some.injEq, Prod.mk.injEq] at H; obtain ⟨rfl, rfl⟩ := H
            go_wp2_with (first | ((with_reducible refine gate_callee (f := 72) rfl ?_); refine goesK (some 46) Try.func72 #[.slice A1 l1.length c1, .slice A2 l2.length c2] ?_; (with_reducible refine (slices_Equal_int_int.calls kj16 _ _ l1 _ _ l2 false _ ?side1 ?side2 ?side3 ?side4 A21.out).mono ?_); (case side1 => exact U (Kd.C_below HR1.out HB.out)); (case side2 => exact HC1.out); (case side3 => exact U (Kd.C_below HR2.out HB.out)); (case side4 => exact HC2.out); rintro e w' ⟨rfl, ⟨nd, rfl⟩⟩; refine ⟨_, rfl, ?_⟩) | ((with_reducible refine gate_callee (f := 73) rfl ?_); refine goesK (some 50) Try.func73 #[.slice A1 l1.length c1, .int .i64 (-1), .slice A2 l2.length c2] ?_; (with_reducible refine (impl_combined.calls kj16 _ _ l1 (-1) _ _ l2 t325 _ ?side1 ?side2 ?side3 ?side4 A25.out).mono ?_); (case side1 => exact U (Kd.C_below HR1.out BU)); (case side2 => exact HC1.out); (case side3 => exact U (Kd.C_below HR2.out BU)); (case side4 => exact HC2.out); rintro e w31 ⟨v326, rfl, ho0, hb⟩; refine ⟨_, rfl, ?_⟩; have HO327 := Aside0.mk (Kd.R_lower (Kd.R_newM (M := fun k_ => (w.heap.size ≤ k_)) ho0 (below_size BU) (fun k_ h_ => h_)) (below_size BU)); replace HB := BS hb; (try clear hb); (try clear ho0); obtain ⟨Ao32, co32, eo32⟩ := Kd.R_slice HO327.out; subst eo32) | ((with_reducible refine gate_callee (f := 57) rfl ?_); refine goesK (some 54) Try.func57 #[.slice A0 l0.length c0, .slice Ao32 t325.length co32, .slice Ao32 t325.length co32] ?_; (with_reducible refine (impl_pair.calls kj16 _ _ l0 _ _ t325 _ _ t325 t328 _ ?side1 ?side2 ?side3 ?side4 ?side5 ?side6 A26.out).mono ?_); (case side1 => exact U (Kd.C_below HR0.out HB.out)); (case side2 => exact HC0.out); (case side3 => exact U ((Kd.R_reads' HO327.out).2.2)); (case side4 => exact (Kd.R_reads' HO327.out).2.1); (case side5 => exact U ((Kd.R_reads' HO327.out).2.2)); (case side6 => exact (Kd.R_reads' HO327.out).2.1); rintro e w' ⟨rfl, ⟨nd, rfl⟩⟩; refine ⟨_, rfl, ?_⟩) | ((with_reducible refine gate_callee (f := 73) rfl ?_); refine goesK (some 61) Try.func73 #[.slice A1 l1.length c1, .int .i64 1, .slice A2 l2.length c2] ?_; (with_reducible refine (impl_combined.calls kj16 _ _ l1 1 _ _ l2 t329 _ ?side1 ?side2 ?side3 ?side4 A28.out).mono ?_); (case side1 => exact U (Kd.C_below HR1.out BU)); (case side2 => exact HC1.out); (case side3 => exact U (Kd.C_below HR2.out BU)); (case side4 => exact HC2.out); rintro e w33 ⟨v330, rfl, ho0, hb⟩; refine ⟨_, rfl, ?_⟩; have HO331 := Aside0.mk (Kd.R_lower (Kd.R_new' (Kd.R_newM (M := fun k_ => (w.heap.size ≤ k_)) ho0 (below_size BU) (fun k_ h_ => h_)) (Kd.R_lt (U HO327.out))) (below_size BU)); replace HO327 := Aside0.mk (Kd.R_elder' (U HO327.out) (Kd.R_base ho0) hb); replace HB := BS hb; (try clear hb); (try clear ho0); obtain ⟨Ao34, co34, eo34⟩ := Kd.R_slice HO331.out; subst eo34) | ((with_reducible refine gate_callee (f := 74) rfl ?_); refine goesK (some 62) Try.func74 #[.slice Ao34 t329.length co34] ?_; (with_reducible refine (impl_plain.calls kj16 _ _ t329 t332 _ ?side1 ?side2 A29.out).mono ?_); (case side1 => exact U ((Kd.R_reads' HO331.out).2.2)); (case side2 => exact (Kd.R_reads' HO331.out).2.1); rintro e w35 ⟨v333, rfl, ho0, hb⟩; refine ⟨_, rfl, ?_⟩; have HO334 := Aside0.mk (Kd.R_lower (Kd.R_new' (Kd.R_new' (Kd.R_newM (M := fun k_ => (w.heap.size ≤ k_)) ho0 (below_size BU) (fun k_ h_ => h_)) (Kd.R_lt (U HO327.out))) (Kd.R_lt (U HO331.out))) (below_size BU)); replace HO327 := Aside0.mk (Kd.R_elder' (U HO327.out) (Kd.R_base ho0) hb); replace HO331 := Aside0.mk (Kd.R_elder' (U HO331.out) (Kd.R_base ho0) hb); replace HB := BS hb; (try clear hb); (try clear ho0)) | ((with_reducible refine gate_callee (f := 74) rfl ?_); refine goesK (some 64) Try.func74 #[.slice A2 l2.length c2] ?_; (with_reducible refine (impl_plain.calls kj16 _ _ l2 t335 _ ?side1 ?side2 A30.out).mono ?_); (case side1 => exact U (Kd.C_below HR2.out HB.out)); (case side2 => exact HC2.out); rintro e w36 ⟨v336, rfl, ho0, hb⟩; refine ⟨_, rfl, ?_⟩; have HO337 := Aside0.mk (Kd.R_lower (Kd.R_new' (Kd.R_new' (Kd.R_new' (Kd.R_newM (M := fun k_ => (w.heap.size ≤ k_)) ho0 (below_size BU) (fun k_ h_ => h_)) (Kd.R_lt (U HO327.out))) (Kd.R_lt (U HO331.out))) (Kd.R_lt (U HO334.out))) (below_size BU)); replace HO327 := Aside0.mk (Kd.R_elder' (U HO327.out) (Kd.R_base ho0) hb); replace HO331 := Aside0.mk (Kd.R_elder' (U HO331.out) (Kd.R_base ho0) hb); replace HO334 := Aside0.mk (Kd.R_elder' (U HO334.out) (Kd.R_base ho0) hb); replace HB := BS hb; (try clear hb); (try clear ho0); obtain ⟨Ao37, co37, eo37⟩ := Kd.R_slice HO334.out; subst eo37; obtain ⟨Ao38, co38, eo38⟩ := Kd.R_slice HO337.out; subst eo38) | ((with_reducible refine gate_dst (N := 65) rfl ?_); (try (refine gate_guard (by rfl) ?_; dsimp only)); refine Kd.N_lit (Kd.slice 3 (Kd.int .i64)) _ 23 ?hg (N' := 65) ?hd (xs := ([t332, t335] : List (List Int))) (inner := [.slice Ao37 t332.length co37, .slice Ao38 t335.length co38]) (ok := (fun k_ => (w.heap.size ≤ k_) ∧ some k_ ≠ (.slice Ao32 t325.length co32 : Value).ownBlock ∧ some k_ ≠ (.slice Ao34 t329.length co34 : Value).ownBlock)) (okp := (fun k_ => (w.heap.size ≤ k_) ∧ some k_ ≠ (.slice Ao32 t325.length co32 : Value).ownBlock ∧ some k_ ≠ (.slice Ao34 t329.length co34 : Value).ownBlock)) ?hr ?hp (fun _ hk => hk) ((show ∀ k_, w36.heap.size ≤ k_ → (fun k_ => (w.heap.size ≤ k_) ∧ some k_ ≠ (.slice Ao32 t325.length co32 : Value).ownBlock ∧ some k_ ≠ (.slice Ao34 t329.length co34 : Value).ownBlock) k_ from fun k_ hk => ⟨(Nat.le_trans (below_size BU) hk), Kd.fresh' (Kd.R_lt (U HO327.out)) k_ hk, Kd.fresh' (Kd.R_lt (U HO331.out)) k_ hk⟩) _ (Nat.le_refl _)) (Below.refl _ _) (Nat.le_refl _) (by simp) ?_; (case hd => rfl); (case hg => rfl); (case hr => first | (go_simp; done) | (go_simp; rfl)); (case hp => exact (Reps.one (show Kd.FK (Kd.slice 3 (Kd.int .i64)) _ _ t332 [.slice Ao37 t332.length co37] from (Kd.FK_slice_mk (Kd.R_reads' (Kd.R_mono (ok' := (fun k_ => (w.heap.size ≤ k_) ∧ some k_ ≠ (.slice Ao32 t325.length co32 : Value).ownBlock ∧ some k_ ≠ (.slice Ao34 t329.length co34 : Value).ownBlock)) (HO334.out) (fun k_ hk => ⟨hk.1.1.1.1, ⟨hk.1.1.2, hk.1.2⟩⟩))).2.1 (Kd.R_F (Kd.R_mono (ok' := (fun k_ => (w.heap.size ≤ k_) ∧ some k_ ≠ (.slice Ao32 t325.length co32 : Value).ownBlock ∧ some k_ ≠ (.slice Ao34 t329.length co34 : Value).ownBlock)) (HO334.out) (fun k_ hk => ⟨hk.1.1.1.1, ⟨hk.1.1.2, hk.1.2⟩⟩))))) (Reps.one (show Kd.FK (Kd.slice 3 (Kd.int .i64)) _ _ t335 [.slice Ao38 t335.length co38] from (Kd.FK_slice_mk (Kd.R_reads' (Kd.R_mono (ok' := (fun k_ => (w.heap.size ≤ k_) ∧ some k_ ≠ (.slice Ao32 t325.length co32 : Value).ownBlock ∧ some k_ ≠ (.slice Ao34 t329.length co34 : Value).ownBlock)) (HO337.out) (fun k_ hk => ⟨hk.1.1.1.1, ⟨hk.1.1.2, hk.1.2⟩⟩))).2.1 (Kd.R_F (Kd.R_mono (ok' := (fun k_ => (w.heap.size ≤ k_) ∧ some k_ ≠ (.slice Ao32 t325.length co32 : Value).ownBlock ∧ some k_ ≠ (.slice Ao34 t329.length co34 : Value).ownBlock)) (HO337.out) (fun k_ hk => ⟨hk.1.1.1.1, ⟨hk.1.1.2, hk.1.2⟩⟩))))) (Reps.none _ _)))); intro v339 w39 ho40 hb hg_ hnew_; clear hg_ hnew_; (first | rw [← Ny338.out] at ho40 | (simp only [Int.reduceToNat] at ho40; rw [← Ny338.out] at ho40)); have n0_ := Aside0.mk (Kd.R_below (U HO327.out) hb); have n1_ := Aside0.mk (Kd.R_below (U HO331.out) hb); have n2_ := Aside0.mk (Kd.N_lower ho40 (below_size BU)); have n3_ := BS hb; clear HO327; clear HO331; try clear HB; clear HO334; clear HO337; have HO327 := n0_; have HO331 := n1_; have HO340 := n2_; have HB := n3_; clear n0_ n1_ n2_ n3_; clear hb ho40))
            go_ret2
            exact ⟨_, eR, Kd.NM HO340.out (fun _ hk => hk.1), BU⟩
          rw [if_neg c27] at H; have c27b0 : (t328 == 0) = false := beq_eq_false_iff_ne.mpr c27; have c27b1 : (t328 != 0) = true := bne_iff_ne.mpr c27; obtain ⟨t341, A41, H⟩ := bnd H; obtain ⟨y344, hy344⟩ : ∃ y_ : List (List Int), y_ = (([t341] : List (List Int))) := ⟨_, rfl⟩; replace H : (some (y344, true)) = some (r1, r2) := rH hy344 H; have Ny344 := Aside0.mk hy344; clear hy344; simp only [Option.some.injEq, Prod.mk.injEq] at H; obtain ⟨rfl, rfl⟩ := H
          go_wp2_with (first | ((with_reducible refine gate_callee (f := 72) rfl ?_); refine goesK (some 46) Try.func72 #[.slice A1 l1.length c1, .slice A2 l2.length c2] ?_; (with_reducible refine (slices_Equal_int_int.calls kj16 _ _ l1 _ _ l2 false _ ?side1 ?side2 ?side3 ?side4 A21.out).mono ?_); (case side1 => exact U (Kd.C_below HR1.out HB.out)); (case side2 => exact HC1.out); (case side3 => exact U (Kd.C_below HR2.out HB.out)); (case side4 => exact HC2.out); rintro e w' ⟨rfl, ⟨nd, rfl⟩⟩; refine ⟨_, rfl, ?_⟩) | ((with_reducible refine gate_callee (f := 73) rfl ?_); refine goesK (some 50) Try.func73 #[.slice A1 l1.length c1, .int .i64 (-1), .slice A2 l2.length c2] ?_; (with_reducible refine (impl_combined.calls kj16 _ _ l1 (-1) _ _ l2 t325 _ ?side1 ?side2 ?side3 ?side4 A25.out).mono ?_); (case side1 => exact U (Kd.C_below HR1.out BU)); (case side2 => exact HC1.out); (case side3 => exact U (Kd.C_below HR2.out BU)); (case side4 => exact HC2.out); rintro e w42 ⟨v326, rfl, ho0, hb⟩; refine ⟨_, rfl, ?_⟩; have HO327 := Aside0.mk (Kd.R_lower (Kd.R_newM (M := fun k_ => (w.heap.size ≤ k_)) ho0 (below_size BU) (fun k_ h_ => h_)) (below_size BU)); replace HB := BS hb; (try clear hb); (try clear ho0); obtain ⟨Ao43, co43, eo43⟩ := Kd.R_slice HO327.out; subst eo43) | ((with_reducible refine gate_callee (f := 57) rfl ?_); refine goesK (some 54) Try.func57 #[.slice A0 l0.length c0, .slice Ao43 t325.length co43, .slice Ao43 t325.length co43] ?_; (with_reducible refine (impl_pair.calls kj16 _ _ l0 _ _ t325 _ _ t325 t328 _ ?side1 ?side2 ?side3 ?side4 ?side5 ?side6 A26.out).mono ?_); (case side1 => exact U (Kd.C_below HR0.out HB.out)); (case side2 => exact HC0.out); (case side3 => exact U ((Kd.R_reads' HO327.out).2.2)); (case side4 => exact (Kd.R_reads' HO327.out).2.1); (case side5 => exact U ((Kd.R_reads' HO327.out).2.2)); (case side6 => exact (Kd.R_reads' HO327.out).2.1); rintro e w' ⟨rfl, ⟨nd, rfl⟩⟩; refine ⟨_, rfl, ?_⟩) | ((with_reducible refine gate_callee (f := 74) rfl ?_); refine goesK (some 57) Try.func74 #[.slice Ao43 t325.length co43] ?_; (with_reducible refine (impl_plain.calls kj16 _ _ t325 t341 _ ?side1 ?side2 A41.out).mono ?_); (case side1 => exact U ((Kd.R_reads' HO327.out).2.2)); (case side2 => exact (Kd.R_reads' HO327.out).2.1); rintro e w44 ⟨v342, rfl, ho0, hb⟩; refine ⟨_, rfl, ?_⟩; have HO343 := Aside0.mk (Kd.R_lower (Kd.R_new' (Kd.R_newM (M := fun k_ => (w.heap.size ≤ k_)) ho0 (below_size BU) (fun k_ h_ => h_)) (Kd.R_lt (U HO327.out))) (below_size BU)); replace HO327 := Aside0.mk (Kd.R_elder' (U HO327.out) (Kd.R_base ho0) hb); replace HB := BS hb; (try clear hb); (try clear ho0); obtain ⟨Ao45, co45, eo45⟩ := Kd.R_slice HO343.out; subst eo45) | ((with_reducible refine gate_dst (N := 58) rfl ?_); (try (refine gate_guard (by rfl) ?_; dsimp only)); refine Kd.N_lit (Kd.slice 3 (Kd.int .i64)) _ 23 ?hg (N' := 58) ?hd (xs := ([t341] : List (List Int))) (inner := [.slice Ao45 t341.length co45]) (ok := (fun k_ => (w.heap.size ≤ k_) ∧ some k_ ≠ (.slice Ao43 t325.length co43 : Value).ownBlock)) (okp := (fun k_ => (w.heap.size ≤ k_) ∧ some k_ ≠ (.slice Ao43 t325.length co43 : Value).ownBlock)) ?hr ?hp (fun _ hk => hk) ((show ∀ k_, w44.heap.size ≤ k_ → (fun k_ => (w.heap.size ≤ k_) ∧ some k_ ≠ (.slice Ao43 t325.length co43 : Value).ownBlock) k_ from fun k_ hk => ⟨(Nat.le_trans (below_size BU) hk), Kd.fresh' (Kd.R_lt (U HO327.out)) k_ hk⟩) _ (Nat.le_refl _)) (Below.refl _ _) (Nat.le_refl _) (by simp) ?_; (case hd => rfl); (case hg => rfl); (case hr => first | (go_simp; done) | (go_simp; rfl)); (case hp => exact (Reps.one (show Kd.FK (Kd.slice 3 (Kd.int .i64)) _ _ t341 [.slice Ao45 t341.length co45] from (Kd.FK_slice_mk (Kd.R_reads' (Kd.R_mono (ok' := (fun k_ => (w.heap.size ≤ k_) ∧ some k_ ≠ (.slice Ao43 t325.length co43 : Value).ownBlock)) (HO343.out) (fun k_ hk => ⟨hk.1.1, hk.2⟩))).2.1 (Kd.R_F (Kd.R_mono (ok' := (fun k_ => (w.heap.size ≤ k_) ∧ some k_ ≠ (.slice Ao43 t325.length co43 : Value).ownBlock)) (HO343.out) (fun k_ hk => ⟨hk.1.1, hk.2⟩))))) (Reps.none _ _))); intro v345 w46 ho47 hb hg_ hnew_; clear hg_ hnew_; (first | rw [← Ny344.out] at ho47 | (simp only [Int.reduceToNat] at ho47; rw [← Ny344.out] at ho47)); have n0_ := Aside0.mk (Kd.R_below (U HO327.out) hb); have n1_ := Aside0.mk (Kd.N_lower ho47 (below_size BU)); have n2_ := BS hb; clear HO327; try clear HB; clear HO343; have HO327 := n0_; have HO346 := n1_; have HB := n2_; clear n0_ n1_ n2_; clear hb ho47))
          go_ret2
          exact ⟨_, eR, Kd.NM HO346.out (fun _ hk => hk.1), BU⟩

/-! ### spec_l6In: function 86 -/
def spec_l6In.f (a0 : Int) (a1 : Int) (a2 : Int) : Option (Bool) := if a0 ≥ a1 then (some (decide (a0 ≤ a2))) else (some false)
set_option maxHeartbeats 8000000 in
set_option maxRecDepth 100000 in
theorem spec_l6In.calls (a0 : Int) (a1 : Int) (a2 : Int) (r : Bool) (w : World) (h : spec_l6In.f a0 a1 a2 = some r) :
    Calls Try.prog 86 #[.int .i64 a0, .int .i64 a1, .int .i64 a2] w fun e w' => e = .returned (.bool r) ∧ Drawn0 w w' := by
  unfold spec_l6In.f at h; have H := h; clear h
  by_cases c4 : a0 ≥ a1
  · rw [if_pos c4] at H
    have c4b0 : decide (a1 ≤ a0) = true := decide_eq_true c4; clear c4; obtain rfl := Option.some.inj H; go_enter Try.func86, Try.ntmps86
    go_wp2
    go_ret
    exact ⟨by first | rfl | (simp; done) | (simp [*]; done), by repeat (first | exact Drawn0.refl _ | apply Drawn0.step)⟩
  rw [if_neg c4] at H; have c4b0 : decide (a1 ≤ a0) = false := decide_eq_false c4; clear c4; obtain rfl := Option.some.inj H; go_enter Try.func86, Try.ntmps86
  go_wp2
  go_ret
  exact ⟨by first | rfl | (simp; done) | (simp [*]; done), by repeat (first | exact Drawn0.refl _ | apply Drawn0.step)⟩

/-! ### spec_FormValid: function 85 -/
def spec_FormValid.l0 : Nat → List Int → Int → Option (Bool)
  | 0, _, _ => none
  | k + 1, x0, x3 => if x3 < (x0.length : Int) then (if 0 ≤ x3 then (if (rd x0 x3) = 0 then (some false) else ((spec_l6In.f (rd x0 x3) (-30) 30).bind fun t349 => (if t349 = true then (spec_FormValid.l0 k x0 (wrap64 (x3 + 1))) else (some false)))) else (none)) else ((spec_l6In.f (x0.length : Int) 1 4).bind fun t350 => (some t350))
def spec_FormValid.f (k : Nat) (l0 : List Int) : Option (Bool) := spec_FormValid.l0 k l0 0
theorem spec_FormValid.mono_l : ∀ k, (∀ y0 y1, LeO (spec_FormValid.l0 k y0 y1) (spec_FormValid.l0 (k + 1) y0 y1))
  | 0 => fun _ _ r h => by simp [spec_FormValid.l0] at h
  | k + 1 => by
    have ih0 := spec_FormValid.mono_l k
    · intro y0 y1
      unfold spec_FormValid.l0
      repeat' first
      | (with_reducible exact ih0 _ _)
      | (with_reducible exact LeO.refl _)
      | (with_reducible exact LeO.none _)
      | (with_reducible refine LeO.ite ?_ ?_)
      | (with_reducible refine LeO.bind ?_ (fun _ => ?_))
      | exact ih0 _ _
      | exact LeO.none _
      | refine LeO.ite ?_ ?_
      | refine LeO.bind ?_ (fun _ => ?_)
theorem spec_FormValid.mono : ∀ a0 k, LeO (spec_FormValid.f k a0) (spec_FormValid.f (k + 1) a0) := by
  intro a0 k
  have ih0 := spec_FormValid.mono_l k
  unfold spec_FormValid.f
  repeat' first
      | (with_reducible exact ih0 _ _)
      | (with_reducible exact LeO.refl _)
      | (with_reducible exact LeO.none _)
      | (with_reducible refine LeO.ite ?_ ?_)
      | (with_reducible refine LeO.bind ?_ (fun _ => ?_))
      | exact ih0 _ _
      | exact LeO.none _
      | refine LeO.ite ?_ ?_
      | refine LeO.bind ?_ (fun _ => ?_)
set_option maxHeartbeats 8000000 in
set_option maxRecDepth 100000 in
theorem spec_FormValid.calls (k : Nat) (A0 : Option Addr) (c0 : Nat) (l0 : List Int) (r : Bool) (w : World) (hr0 : Kd.C (Kd.int .i64) w A0 l0.length l0) (hc0 : l0.length ≤ c0) (h : spec_FormValid.f k l0 = some r) :
    Calls Try.prog 85 #[.slice A0 l0.length c0] w fun e w' => e = .returned (.bool r) ∧ Drawn0 w w' := by
  have HR0 := Aside0.mk hr0; have HC0 := Aside0.mk hc0; clear hr0 hc0; unfold spec_FormValid.f at h; have H := h; clear h; have H' := Aside0.mk H; clear H; go_enter Try.func85, Try.ntmps85
  go_wp2
  go_loopg [3] k (fun kq v3 w' => ∃ (x3_1 : Int), v3 = .int .i64 x3_1 ∧ Aside0 (spec_FormValid.l0 kq l0 x3_1 = some r) ∧ Aside0 (kq ≤ k) ∧ Drawn0 w w')
  case atStart => exact ⟨(0), sR, H', ⟨Nat.le_refl _⟩, by repeat (first | exact Drawn0.refl _ | apply Drawn0.step)⟩
  case round =>
    clear H'; obtain ⟨x3_1, rfl, HA, HK1, ⟨m1, rfl⟩⟩ := hrel; cases gk with
    | zero => exact absurd HA.out (by simp [spec_FormValid.l0])
    | succ k1 =>
      have H := HA.out; clear HA; simp only [spec_FormValid.l0] at H
      by_cases c2 : x3_1 < (l0.length : Int)
      · rw [if_pos c2] at H
        have c2b0 : decide (x3_1 < (l0.length : Int)) = true := decide_eq_true c2; clear c2; obtain ⟨c3, H⟩ := ifN H; have c3b0 : decide (0 ≤ x3_1) = true := decide_eq_true c3; clear c3
        by_cases c4 : (rd l0 x3_1) = 0
        · rw [if_pos c4] at H
          have c4b0 : ((rd l0 x3_1) == 0) = true := beq_iff_eq.mpr c4; have c4b1 : ((rd l0 x3_1) != 0) = false := bne_eq_false_iff_eq.mpr c4; clear c4; obtain rfl := Option.some.inj H; have p347 : 0 ≤ (x3_1 : Int) := oD; have q347 : x3_1 < (l0.length : Int) := oD; obtain ⟨ad347, e347, hx347_0⟩ := Kd.at_int HR0.out x3_1 p347 q347; cases e347; replace p347 := eq_true p347; replace q347 := eq_true q347
          go_wp2
          go_ret
          exact ⟨by first | rfl | (simp; done) | (simp [*]; done), by repeat (first | exact Drawn0.refl _ | apply Drawn0.step)⟩
        rw [if_neg c4] at H; have c4b0 : ((rd l0 x3_1) == 0) = false := beq_eq_false_iff_ne.mpr c4; have c4b1 : ((rd l0 x3_1) != 0) = true := bne_iff_ne.mpr c4; obtain ⟨t349, A5, H⟩ := bnd H
        by_cases c6 : t349 = true
        · subst c6
          replace H := ifT H; have H' := Aside0.mk H; clear H; have p347 : 0 ≤ (x3_1 : Int) := oD; have q347 : x3_1 < (l0.length : Int) := oD; obtain ⟨ad347, e347, hx347_0⟩ := Kd.at_int HR0.out x3_1 p347 q347; cases e347; replace p347 := eq_true p347; replace q347 := eq_true q347; have p348 : 0 ≤ (x3_1 : Int) := oD; have q348 : x3_1 < (l0.length : Int) := oD; obtain ⟨ad348, e348, hx348_0⟩ := Kd.at_int HR0.out x3_1 p348 q348; obtain rfl : ad347 = ad348 := (by injection e348); replace p348 := eq_true p348; replace q348 := eq_true q348
          go_wp2_with (first | (go_at_call 86; (with_reducible refine (spec_l6In.calls (rd l0 x3_1) (-30) 30 true _ A5.out).mono ?_); rintro e w' ⟨rfl, ⟨nd, rfl⟩⟩))
          go_roundg k1
          case measure => have := HK1.out; omega
          case rel => exact ⟨(wrap64 (x3_1 + 1)), sR, H', ⟨by have := HK1.out; omega⟩, by repeat (first | exact Drawn0.refl _ | apply Drawn0.step)⟩
        replace c6 := Bool.eq_false_iff.mpr c6; subst c6; replace H := ifF H; obtain rfl := Option.some.inj H; have p347 : 0 ≤ (x3_1 : Int) := oD; have q347 : x3_1 < (l0.length : Int) := oD; obtain ⟨ad347, e347, hx347_0⟩ := Kd.at_int HR0.out x3_1 p347 q347; cases e347; replace p347 := eq_true p347; replace q347 := eq_true q347; have p348 : 0 ≤ (x3_1 : Int) := oD; have q348 : x3_1 < (l0.length : Int) := oD; obtain ⟨ad348, e348, hx348_0⟩ := Kd.at_int HR0.out x3_1 p348 q348; obtain rfl : ad347 = ad348 := (by injection e348); replace p348 := eq_true p348; replace q348 := eq_true q348
        go_wp2_with (first | (go_at_call 86; (with_reducible refine (spec_l6In.calls (rd l0 x3_1) (-30) 30 false _ A5.out).mono ?_); rintro e w' ⟨rfl, ⟨nd, rfl⟩⟩))
        go_ret
        exact ⟨by first | rfl | (simp; done) | (simp [*]; done), by repeat (first | exact Drawn0.refl _ | apply Drawn0.step)⟩
      rw [if_neg c2] at H; have c2b0 : decide (x3_1 < (l0.length : Int)) = false := decide_eq_false c2; clear c2; obtain ⟨t350, A7, H⟩ := bnd H; obtain rfl := Option.some.inj H
      go_wp2_with (first | ((with_reducible refine gate_callee (f := 86) rfl ?_); refine goesK (some 25) Try.func86 #[.int .i64 (l0.length : Int), .int .i64 1, .int .i64 4] ?_; (with_reducible refine (spec_l6In.calls (l0.length : Int) 1 4 t350 _ A7.out).mono ?_); rintro e w' ⟨rfl, ⟨nd, rfl⟩⟩; refine ⟨_, rfl, ?_⟩))
      go_ret
      exact ⟨by first | rfl | (simp; done) | (simp [*]; done), by repeat (first | exact Drawn0.refl _ | apply Drawn0.step)⟩

/-! ### spec_l7Form: function 54 -/
def spec_l7Form.f (k : Nat) (l0 : List Int) : Option (Bool) := (spec_FormValid.f k l0).bind fun t351 => (if t351 = true then (some (decide ((l0.length : Int) ≤ 3))) else (some false))
theorem spec_l7Form.mono : ∀ a0 k, LeO (spec_l7Form.f k a0) (spec_l7Form.f (k + 1) a0) := by
  intro a0 k
  unfold spec_l7Form.f
  repeat' first
      | (with_reducible exact spec_FormValid.mono _ _)
      | (with_reducible exact LeO.refl _)
      | (with_reducible exact LeO.none _)
      | (with_reducible refine LeO.ite ?_ ?_)
      | (with_reducible refine LeO.bind ?_ (fun _ => ?_))
      | exact spec_FormValid.mono _ _
      | exact LeO.none _
      | refine LeO.ite ?_ ?_
      | refine LeO.bind ?_ (fun _ => ?_)
set_option maxHeartbeats 8000000 in
set_option maxRecDepth 100000 in
theorem spec_l7Form.calls (k : Nat) (A0 : Option Addr) (c0 : Nat) (l0 : List Int) (r : Bool) (w : World) (hr0 : Kd.C (Kd.int .i64) w A0 l0.length l0) (hc0 : l0.length ≤ c0) (h : spec_l7Form.f k l0 = some r) :
    Calls Try.prog 54 #[.slice A0 l0.length c0] w fun e w' => e = .returned (.bool r) ∧ Drawn0 w w' := by
  have HR0 := Aside0.mk hr0; have HC0 := Aside0.mk hc0; clear hr0 hc0; unfold spec_l7Form.f at h; have H := h; clear h; obtain ⟨t351, A2, H⟩ := bnd H
  by_cases c3 : t351 = true
  · subst c3
    replace H := ifT H; obtain rfl := Option.some.inj H; go_enter Try.func54, Try.ntmps54
    go_wp2_with (first | ((with_reducible refine gate_callee (f := 85) rfl ?_); refine goesK (some 4) Try.func85 #[.slice A0 l0.length c0] ?_; (with_reducible refine (spec_FormValid.calls k _ _ l0 true _ ?side1 ?side2 A2.out).mono ?_); (case side1 => exact U HR0.out); (case side2 => exact HC0.out); rintro e w' ⟨rfl, ⟨nd, rfl⟩⟩; refine ⟨_, rfl, ?_⟩))
    go_ret
    exact ⟨by first | rfl | (simp; done) | (simp [*]; done), by repeat (first | exact Drawn0.refl _ | apply Drawn0.step)⟩
  replace c3 := Bool.eq_false_iff.mpr c3; subst c3; replace H := ifF H; obtain rfl := Option.some.inj H; go_enter Try.func54, Try.ntmps54
  go_wp2_with (first | ((with_reducible refine gate_callee (f := 85) rfl ?_); refine goesK (some 4) Try.func85 #[.slice A0 l0.length c0] ?_; (with_reducible refine (spec_FormValid.calls k _ _ l0 false _ ?side1 ?side2 A2.out).mono ?_); (case side1 => exact U HR0.out); (case side2 => exact HC0.out); rintro e w' ⟨rfl, ⟨nd, rfl⟩⟩; refine ⟨_, rfl, ?_⟩))
  go_ret
  exact ⟨by first | rfl | (simp; done) | (simp [*]; done), by repeat (first | exact Drawn0.refl _ | apply Drawn0.step)⟩

/-! ### spec_l4Vector: function 67 -/
def spec_l4Vector.l0 : Nat → List Int → List Int → Int → Int → Option (Bool)
  | 0, _, _, _, _ => none
  | k + 1, x0, x1, x2, x7 => if x7 < (x1.length : Int) then (if 0 ≤ x7 then ((spec_l6In.f (rd x1 x7) (wrap64 (-x2)) x2).bind fun t353 => (if t353 = true then (spec_l4Vector.l0 k x0 x1 x2 (wrap64 (x7 + 1))) else (some false))) else (none)) else ((spec_FormValid.f k x0).bind fun t354 => (if t354 = true then (some ((x1.length : Int) == (x0.length : Int))) else (some false)))
def spec_l4Vector.f (k : Nat) (l0 : List Int) (l1 : List Int) (a2 : Int) : Option (Bool) := spec_l4Vector.l0 k l0 l1 a2 0
theorem spec_l4Vector.mono_l : ∀ k, (∀ y0 y1 y2 y3, LeO (spec_l4Vector.l0 k y0 y1 y2 y3) (spec_l4Vector.l0 (k + 1) y0 y1 y2 y3))
  | 0 => fun _ _ _ _ r h => by simp [spec_l4Vector.l0] at h
  | k + 1 => by
    have ih0 := spec_l4Vector.mono_l k
    · intro y0 y1 y2 y3
      unfold spec_l4Vector.l0
      repeat' first
      | (with_reducible exact ih0 _ _ _ _)
      | (with_reducible exact spec_FormValid.mono _ _)
      | (with_reducible exact LeO.refl _)
      | (with_reducible exact LeO.none _)
      | (with_reducible refine LeO.ite ?_ ?_)
      | (with_reducible refine LeO.bind ?_ (fun _ => ?_))
      | exact ih0 _ _ _ _
      | exact spec_FormValid.mono _ _
      | exact LeO.none _
      | refine LeO.ite ?_ ?_
      | refine LeO.bind ?_ (fun _ => ?_)
theorem spec_l4Vector.mono : ∀ a0 a1 a2 k, LeO (spec_l4Vector.f k a0 a1 a2) (spec_l4Vector.f (k + 1) a0 a1 a2) := by
  intro a0 a1 a2 k
  have ih0 := spec_l4Vector.mono_l k
  unfold spec_l4Vector.f
  repeat' first
      | (with_reducible exact ih0 _ _ _ _)
      | (with_reducible exact spec_FormValid.mono _ _)
      | (with_reducible exact LeO.refl _)
      | (with_reducible exact LeO.none _)
      | (with_reducible refine LeO.ite ?_ ?_)
      | (with_reducible refine LeO.bind ?_ (fun _ => ?_))
      | exact ih0 _ _ _ _
      | exact spec_FormValid.mono _ _
      | exact LeO.none _
      | refine LeO.ite ?_ ?_
      | refine LeO.bind ?_ (fun _ => ?_)
set_option maxHeartbeats 8000000 in
set_option maxRecDepth 100000 in
theorem spec_l4Vector.calls (k : Nat) (A0 : Option Addr) (c0 : Nat) (l0 : List Int) (A1 : Option Addr) (c1 : Nat) (l1 : List Int) (a2 : Int) (r : Bool) (w : World) (hr0 : Kd.C (Kd.int .i64) w A0 l0.length l0) (hc0 : l0.length ≤ c0) (hr1 : Kd.C (Kd.int .i64) w A1 l1.length l1) (hc1 : l1.length ≤ c1) (h : spec_l4Vector.f k l0 l1 a2 = some r) :
    Calls Try.prog 67 #[.slice A0 l0.length c0, .slice A1 l1.length c1, .int .i64 a2] w fun e w' => e = .returned (.bool r) ∧ Drawn0 w w' := by
  have HR0 := Aside0.mk hr0; have HC0 := Aside0.mk hc0; clear hr0 hc0; have HR1 := Aside0.mk hr1; have HC1 := Aside0.mk hc1; clear hr1 hc1; unfold spec_l4Vector.f at h; have H := h; clear h; have H' := Aside0.mk H; clear H; go_enter Try.func67, Try.ntmps67
  go_wp2
  go_loopg [7] k (fun kq v7 w' => ∃ (x7_1 : Int), v7 = .int .i64 x7_1 ∧ Aside0 (spec_l4Vector.l0 kq l0 l1 a2 x7_1 = some r) ∧ Aside0 (kq ≤ k) ∧ Drawn0 w w')
  case atStart => exact ⟨(0), sR, H', ⟨Nat.le_refl _⟩, by repeat (first | exact Drawn0.refl _ | apply Drawn0.step)⟩
  case round =>
    clear H'; obtain ⟨x7_1, rfl, HA, HK1, ⟨m1, rfl⟩⟩ := hrel; cases gk with
    | zero => exact absurd HA.out (by simp [spec_l4Vector.l0])
    | succ k1 =>
      have H := HA.out; clear HA; simp only [spec_l4Vector.l0] at H
      by_cases c4 : x7_1 < (l1.length : Int)
      · rw [if_pos c4] at H
        have c4b0 : decide (x7_1 < (l1.length : Int)) = true := decide_eq_true c4; clear c4; obtain ⟨c5, H⟩ := ifN H; have c5b0 : decide (0 ≤ x7_1) = true := decide_eq_true c5; clear c5; obtain ⟨t353, A6, H⟩ := bnd H
        by_cases c7 : t353 = true
        · subst c7
          replace H := ifT H; have H' := Aside0.mk H; clear H; have p352 : 0 ≤ (x7_1 : Int) := oD; have q352 : x7_1 < (l1.length : Int) := oD; obtain ⟨ad352, e352, hx352_0⟩ := Kd.at_int HR1.out x7_1 p352 q352; cases e352; replace p352 := eq_true p352; replace q352 := eq_true q352
          go_wp2_with (first | ((with_reducible refine gate_callee (f := 86) rfl ?_); refine goesK (some 21) Try.func86 #[.int .i64 (rd l1 x7_1), .int .i64 (wrap64 (-a2)), .int .i64 a2] ?_; (with_reducible refine (spec_l6In.calls (rd l1 x7_1) (wrap64 (-a2)) a2 true _ A6.out).mono ?_); rintro e w' ⟨rfl, ⟨nd, rfl⟩⟩; refine ⟨_, rfl, ?_⟩))
          go_roundg k1
          case measure => have := HK1.out; omega
          case rel => exact ⟨(wrap64 (x7_1 + 1)), sR, H', ⟨by have := HK1.out; omega⟩, by repeat (first | exact Drawn0.refl _ | apply Drawn0.step)⟩
        replace c7 := Bool.eq_false_iff.mpr c7; subst c7; replace H := ifF H; obtain rfl := Option.some.inj H; have p352 : 0 ≤ (x7_1 : Int) := oD; have q352 : x7_1 < (l1.length : Int) := oD; obtain ⟨ad352, e352, hx352_0⟩ := Kd.at_int HR1.out x7_1 p352 q352; cases e352; replace p352 := eq_true p352; replace q352 := eq_true q352
        go_wp2_with (first | ((with_reducible refine gate_callee (f := 86) rfl ?_); refine goesK (some 21) Try.func86 #[.int .i64 (rd l1 x7_1), .int .i64 (wrap64 (-a2)), .int .i64 a2] ?_; (with_reducible refine (spec_l6In.calls (rd l1 x7_1) (wrap64 (-a2)) a2 false _ A6.out).mono ?_); rintro e w' ⟨rfl, ⟨nd, rfl⟩⟩; refine ⟨_, rfl, ?_⟩))
        go_ret
        exact ⟨by first | rfl | (simp; done) | (simp [*]; done), by repeat (first | exact Drawn0.refl _ | apply Drawn0.step)⟩
      rw [if_neg c4] at H; have c4b0 : decide (x7_1 < (l1.length : Int)) = false := decide_eq_false c4; clear c4; obtain ⟨t354, A8, H⟩ := bnd H
      by_cases c9 : t354 = true
      · subst c9
        replace H := ifT H; obtain rfl := Option.some.inj H
        go_wp2_with (first | ((with_reducible refine gate_callee (f := 85) rfl ?_); refine goesK (some 24) Try.func85 #[.slice A0 l0.length c0] ?_; (with_reducible refine (spec_FormValid.calls k1 _ _ l0 true _ ?side1 ?side2 A8.out).mono ?_); (case side1 => exact U HR0.out); (case side2 => exact HC0.out); rintro e w' ⟨rfl, ⟨nd, rfl⟩⟩; refine ⟨_, rfl, ?_⟩))
        go_ret
        exact ⟨by first | rfl | (simp; done) | (simp [*]; done), by repeat (first | exact Drawn0.refl _ | apply Drawn0.step)⟩
      replace c9 := Bool.eq_false_iff.mpr c9; subst c9; replace H := ifF H; obtain rfl := Option.some.inj H
      go_wp2_with (first | ((with_reducible refine gate_callee (f := 85) rfl ?_); refine goesK (some 24) Try.func85 #[.slice A0 l0.length c0] ?_; (with_reducible refine (spec_FormValid.calls k1 _ _ l0 false _ ?side1 ?side2 A8.out).mono ?_); (case side1 => exact U HR0.out); (case side2 => exact HC0.out); rintro e w' ⟨rfl, ⟨nd, rfl⟩⟩; refine ⟨_, rfl, ?_⟩))
      go_ret
      exact ⟨by first | rfl | (simp; done) | (simp [*]; done), by repeat (first | exact Drawn0.refl _ | apply Drawn0.step)⟩

/-! ### spec_l4Value: function 75 -/
def spec_l4Value.l0 : Nat → List Int → List Int → Int → Int → Option (Int)
  | 0, _, _, _, _ => none
  | k + 1, x0, x1, x5, x6 => if x6 < (x0.length : Int) then (if 0 ≤ x6 then (if x6 < (x1.length : Int) then (spec_l4Value.l0 k x0 x1 (wrap64 (x5 + (wrap64 ((wrap64 ((rd x0 x6) * (rd x1 x6))) * (rd x1 x6))))) (wrap64 (x6 + 1))) else (none)) else (none)) else (some x5)
def spec_l4Value.f (k : Nat) (l0 : List Int) (l1 : List Int) : Option (Int) := spec_l4Value.l0 k l0 l1 0 0
theorem spec_l4Value.mono_l : ∀ k, (∀ y0 y1 y2 y3, LeO (spec_l4Value.l0 k y0 y1 y2 y3) (spec_l4Value.l0 (k + 1) y0 y1 y2 y3))
  | 0 => fun _ _ _ _ r h => by simp [spec_l4Value.l0] at h
  | k + 1 => by
    have ih0 := spec_l4Value.mono_l k
    · intro y0 y1 y2 y3
      unfold spec_l4Value.l0
      repeat' first
      | (with_reducible exact ih0 _ _ _ _)
      | (with_reducible exact LeO.refl _)
      | (with_reducible exact LeO.none _)
      | (with_reducible refine LeO.ite ?_ ?_)
      | (with_reducible refine LeO.bind ?_ (fun _ => ?_))
      | exact ih0 _ _ _ _
      | exact LeO.none _
      | refine LeO.ite ?_ ?_
      | refine LeO.bind ?_ (fun _ => ?_)
theorem spec_l4Value.mono : ∀ a0 a1 k, LeO (spec_l4Value.f k a0 a1) (spec_l4Value.f (k + 1) a0 a1) := by
  intro a0 a1 k
  have ih0 := spec_l4Value.mono_l k
  unfold spec_l4Value.f
  repeat' first
      | (with_reducible exact ih0 _ _ _ _)
      | (with_reducible exact LeO.refl _)
      | (with_reducible exact LeO.none _)
      | (with_reducible refine LeO.ite ?_ ?_)
      | (with_reducible refine LeO.bind ?_ (fun _ => ?_))
      | exact ih0 _ _ _ _
      | exact LeO.none _
      | refine LeO.ite ?_ ?_
      | refine LeO.bind ?_ (fun _ => ?_)
set_option maxHeartbeats 8000000 in
set_option maxRecDepth 100000 in
theorem spec_l4Value.calls (k : Nat) (A0 : Option Addr) (c0 : Nat) (l0 : List Int) (A1 : Option Addr) (c1 : Nat) (l1 : List Int) (r : Int) (w : World) (hr0 : Kd.C (Kd.int .i64) w A0 l0.length l0) (hc0 : l0.length ≤ c0) (hr1 : Kd.C (Kd.int .i64) w A1 l1.length l1) (hc1 : l1.length ≤ c1) (h : spec_l4Value.f k l0 l1 = some r) :
    Calls Try.prog 75 #[.slice A0 l0.length c0, .slice A1 l1.length c1] w fun e w' => e = .returned (.int .i64 r) ∧ Drawn0 w w' := by
  have HR0 := Aside0.mk hr0; have HC0 := Aside0.mk hc0; clear hr0 hc0; have HR1 := Aside0.mk hr1; have HC1 := Aside0.mk hc1; clear hr1 hc1; unfold spec_l4Value.f at h; have H := h; clear h; have H' := Aside0.mk H; clear H; go_enter Try.func75, Try.ntmps75
  go_wp2
  repeat (go_quiet (fail); try go_wp2)
  go_loopg [5, 6] k (fun kq v5 v6 w' => ∃ (x5_1 : Int) (x6_1 : Int), v5 = .int .i64 x5_1 ∧ v6 = .int .i64 x6_1 ∧ Aside0 (spec_l4Value.l0 kq l0 l1 x5_1 x6_1 = some r) ∧ Aside0 (kq ≤ k) ∧ Drawn0 w w')
  case atStart => exact ⟨(0), (0), sR, sR, H', ⟨Nat.le_refl _⟩, by repeat (first | exact Drawn0.refl _ | apply Drawn0.step)⟩
  case round =>
    clear H'; obtain ⟨x5_1, x6_1, rfl, rfl, HA, HK1, ⟨m1, rfl⟩⟩ := hrel; cases gk with
    | zero => exact absurd HA.out (by simp [spec_l4Value.l0])
    | succ k1 =>
      have H := HA.out; clear HA; simp only [spec_l4Value.l0] at H
      by_cases c3 : x6_1 < (l0.length : Int)
      · rw [if_pos c3] at H
        have c3b0 : decide (x6_1 < (l0.length : Int)) = true := decide_eq_true c3; clear c3; obtain ⟨c4, H⟩ := ifN H; have c4b0 : decide (0 ≤ x6_1) = true := decide_eq_true c4; clear c4; obtain ⟨c5, H⟩ := ifN H; have c5b0 : decide (x6_1 < (l1.length : Int)) = true := decide_eq_true c5; clear c5; have H' := Aside0.mk H; clear H; have p355 : 0 ≤ (x6_1 : Int) := oD; have q355 : x6_1 < (l0.length : Int) := oD; obtain ⟨ad355, e355, hx355_0⟩ := Kd.at_int HR0.out x6_1 p355 q355; cases e355; replace p355 := eq_true p355; replace q355 := eq_true q355; have p356 : 0 ≤ (x6_1 : Int) := oD; have q356 : x6_1 < (l1.length : Int) := oD; obtain ⟨ad356, e356, hx356_0⟩ := Kd.at_int HR1.out x6_1 p356 q356; cases e356; replace p356 := eq_true p356; replace q356 := eq_true q356; have p357 : 0 ≤ (x6_1 : Int) := oD; have q357 : x6_1 < (l1.length : Int) := oD; obtain ⟨ad357, e357, hx357_0⟩ := Kd.at_int HR1.out x6_1 p357 q357; obtain rfl : ad356 = ad357 := (by injection e357); replace p357 := eq_true p357; replace q357 := eq_true q357
        go_wp2
        repeat (go_quiet (fail); try go_wp2)
        go_roundg k1
        case measure => have := HK1.out; omega
        case rel => exact ⟨(wrap64 (x5_1 + (wrap64 ((wrap64 ((rd l0 x6_1) * (rd l1 x6_1))) * (rd l1 x6_1))))), (wrap64 (x6_1 + 1)), sR, sR, H', ⟨by have := HK1.out; omega⟩, by repeat (first | exact Drawn0.refl _ | apply Drawn0.step)⟩
      rw [if_neg c3] at H; have c3b0 : decide (x6_1 < (l0.length : Int)) = false := decide_eq_false c3; clear c3; obtain rfl := Option.some.inj H
      go_wp2
      repeat (go_quiet (fail); try go_wp2)
      go_ret
      exact ⟨by first | rfl | (simp; done) | (simp [*]; done), by repeat (first | exact Drawn0.refl _ | apply Drawn0.step)⟩

end Go.Proofs.Ytnbeeogmaamgdaa.PFnCarry
