-- Written by a program of this session (wip/print2.py): the functions that the law reaches, plain, and the walks.
import Derived.Test.YtnbeeogmaamgdaaPFnCarryx0
import Derived.Test.YtnbeeogmaamgdaaPFnCarryx4
import Derived.Test.YtnbeeogmaamgdaaPFnCarryx5
import Derived.Test.YtnbeeogmaamgdaaPFnCarryx6
import Derived.Test.YtnbeeogmaamgdaaPFnCarryx8
import Derived.Test.YtnbeeogmaamgdaaPFnCarryx10
import Derived.Test.YtnbeeogmaamgdaaPFnCarryx12
namespace Go.Proofs.Ytnbeeogmaamgdaa.PFnCarry
open Go.RowKit Go.Proofs.YtnbeeogmaamgdaaW.PrintWords Go.Proofs.YtnbeeogmaamgdaaW.PrintLast Go.Proofs.YtnbeeogmaamgdaaW.PrintMore
attribute [local go_sem] max2_int min2_int max_two min_two max_three min_three max_four min_four   -- for this text's walks alone
set_option linter.unusedVariables false
set_option linter.unusedSimpArgs false

/-! ### laws_FnCarry: function 5 -/
mutual
def laws_FnCarry.j0 : Nat → List Int → List Int → List Int → List (List Int) → Bool → List (List Int) → Bool → Bool → Option (Bool)
  | 0, _, _, _, _, _, _, _, _ => none
  | k + 1, x3, x4, x5, x6, x7, x8, x9, x53 => if x53 = true then (if (x7 == x9) = true then ((laws_sameLists.f k x6 x8).bind fun t439 => (some t439)) else (none)) else (laws_FnCarry.l0 k x3 x5 x6 x4 1 true 0)
def laws_FnCarry.l0 : Nat → List Int → List Int → List (List Int) → List Int → Int → Bool → Int → Option (Bool)
  | 0, _, _, _, _, _, _, _ => none
  | k + 1, x3, x5, x6, x10, x11, x12, x13 => if x13 < (x6.length : Int) then (if x12 = true then (laws_FnCarry.j2 k x3 x5 x6 x10 x11 x12 x13 (x11 == 1)) else (laws_FnCarry.j2 k x3 x5 x6 x10 x11 x12 x13 false)) else (laws_FnCarry.j2 k x3 x5 x6 x10 x11 x12 x13 false)
def laws_FnCarry.j2 : Nat → List Int → List Int → List (List Int) → List Int → Int → Bool → Int → Bool → Option (Bool)
  | 0, _, _, _, _, _, _, _, _ => none
  | k + 1, x3, x5, x6, x10, x11, x12, x13, x73 => if x73 = true then (if 0 ≤ x13 then (if x13 < (x6.length : Int) then ((impl_MoveMirror.f k x3 (rd_L1 x6 x13)).bind fun bt441 => (if bt441.2.2 = true then ((impl_MoveOn.f k x3 bt441.1 bt441.2.1 x10).bind fun bt447 => (laws_FnCarry.l0 k x3 x5 x6 bt447.1 bt447.2.1 bt447.2.2 (wrap64 (x13 + 1)))) else (laws_FnCarry.l0 k x3 x5 x6 x10 x11 bt441.2.2 (wrap64 (x13 + 1))))) else (none)) else (none)) else ((impl_FormSigns.f k x3).bind fun bt452 => (if x12 = true then (if bt452.2 = true then (if x11 = 1 then ((laws_sameInts.f k x10 x5).bind fun t454 => (if t454 = true then (if (x6.length : Int) ≤ 2 then ((laws_sizeOf.f bt452.1).bind fun t455 => (if t455 < (x3.length : Int) then (some true) else (some (decide ((x6.length : Int) ≤ 1))))) else (none)) else (none))) else (none)) else (none)) else (if bt452.2 = true then (some (decide ((x6.length : Int) > 0))) else (none))))
end
def laws_FnCarry.f (k : Nat) (l0 : List Int) : Option (Bool) := if (l0.length : Int) > 1048576 then (some true) else ((spec_DrawMoveCarry.f k l0).bind fun bt421 => ((impl_MoveCarry.f k bt421.1 bt421.2.1 bt421.2.2).bind fun bt430 => ((spec_MoveCarry.f k bt421.1 bt421.2.1 bt421.2.2).bind fun bt434 => (if (bt430.2 != bt434.2) = true then (laws_FnCarry.j0 k bt421.1 bt421.2.1 bt421.2.2 bt430.1 bt430.2 bt434.1 bt434.2 true) else ((laws_sameLists.f k bt430.1 bt434.1).bind fun t438 => (if t438 = true then (laws_FnCarry.j0 k bt421.1 bt421.2.1 bt421.2.2 bt430.1 bt430.2 bt434.1 bt434.2 (!bt430.2)) else (laws_FnCarry.j0 k bt421.1 bt421.2.1 bt421.2.2 bt430.1 bt430.2 bt434.1 bt434.2 true)))))))
theorem laws_FnCarry.mono_l : ∀ k, (∀ y0 y1 y2 y3 y4 y5 y6 y7, LeO (laws_FnCarry.j0 k y0 y1 y2 y3 y4 y5 y6 y7) (laws_FnCarry.j0 (k + 1) y0 y1 y2 y3 y4 y5 y6 y7)) ∧ (∀ y0 y1 y2 y3 y4 y5 y6, LeO (laws_FnCarry.l0 k y0 y1 y2 y3 y4 y5 y6) (laws_FnCarry.l0 (k + 1) y0 y1 y2 y3 y4 y5 y6)) ∧ (∀ y0 y1 y2 y3 y4 y5 y6 y7, LeO (laws_FnCarry.j2 k y0 y1 y2 y3 y4 y5 y6 y7) (laws_FnCarry.j2 (k + 1) y0 y1 y2 y3 y4 y5 y6 y7))
  | 0 => ⟨fun _ _ _ _ _ _ _ _ r h => by simp [laws_FnCarry.j0] at h, fun _ _ _ _ _ _ _ r h => by simp [laws_FnCarry.l0] at h, fun _ _ _ _ _ _ _ _ r h => by simp [laws_FnCarry.j2] at h⟩
  | k + 1 => by
    obtain ⟨ih0, ih1, ih2⟩ := laws_FnCarry.mono_l k
    refine ⟨?_, ?_, ?_⟩ <;> intros <;> (first | unfold laws_FnCarry.j0 | unfold laws_FnCarry.l0 | unfold laws_FnCarry.j2) <;> (repeat' first
      | (with_reducible exact ih0 _ _ _ _ _ _ _ _)
      | (with_reducible exact ih1 _ _ _ _ _ _ _)
      | (with_reducible exact ih2 _ _ _ _ _ _ _ _)
      | (with_reducible exact impl_FormSigns.mono _ _)
      | (with_reducible exact impl_MoveCarry.mono _ _ _ _)
      | (with_reducible exact impl_MoveMirror.mono _ _ _)
      | (with_reducible exact impl_MoveOn.mono _ _ _ _ _)
      | (with_reducible exact laws_sameInts.mono _ _ _)
      | (with_reducible exact laws_sameLists.mono _ _ _)
      | (with_reducible exact spec_DrawMoveCarry.mono _ _)
      | (with_reducible exact spec_MoveCarry.mono _ _ _ _)
      | (with_reducible exact LeO.refl _)
      | (with_reducible exact LeO.none _)
      | (with_reducible refine LeO.ite ?_ ?_)
      | (with_reducible refine LeO.bind ?_ (fun _ => ?_))
      | exact ih0 _ _ _ _ _ _ _ _
      | exact ih1 _ _ _ _ _ _ _
      | exact ih2 _ _ _ _ _ _ _ _
      | exact impl_FormSigns.mono _ _
      | exact impl_MoveCarry.mono _ _ _ _
      | exact impl_MoveMirror.mono _ _ _
      | exact impl_MoveOn.mono _ _ _ _ _
      | exact laws_sameInts.mono _ _ _
      | exact laws_sameLists.mono _ _ _
      | exact spec_DrawMoveCarry.mono _ _
      | exact spec_MoveCarry.mono _ _ _ _
      | exact LeO.none _
      | refine LeO.ite ?_ ?_
      | refine LeO.bind ?_ (fun _ => ?_))
theorem laws_FnCarry.mono : ∀ a0 k, LeO (laws_FnCarry.f k a0) (laws_FnCarry.f (k + 1) a0) := by
  intro a0 k
  obtain ⟨ih0, ih1, ih2⟩ := laws_FnCarry.mono_l k
  unfold laws_FnCarry.f
  repeat' first
      | (with_reducible exact ih0 _ _ _ _ _ _ _ _)
      | (with_reducible exact ih1 _ _ _ _ _ _ _)
      | (with_reducible exact ih2 _ _ _ _ _ _ _ _)
      | (with_reducible exact impl_FormSigns.mono _ _)
      | (with_reducible exact impl_MoveCarry.mono _ _ _ _)
      | (with_reducible exact impl_MoveMirror.mono _ _ _)
      | (with_reducible exact impl_MoveOn.mono _ _ _ _ _)
      | (with_reducible exact laws_sameInts.mono _ _ _)
      | (with_reducible exact laws_sameLists.mono _ _ _)
      | (with_reducible exact spec_DrawMoveCarry.mono _ _)
      | (with_reducible exact spec_MoveCarry.mono _ _ _ _)
      | (with_reducible exact LeO.refl _)
      | (with_reducible exact LeO.none _)
      | (with_reducible refine LeO.ite ?_ ?_)
      | (with_reducible refine LeO.bind ?_ (fun _ => ?_))
      | exact ih0 _ _ _ _ _ _ _ _
      | exact ih1 _ _ _ _ _ _ _
      | exact ih2 _ _ _ _ _ _ _ _
      | exact impl_FormSigns.mono _ _
      | exact impl_MoveCarry.mono _ _ _ _
      | exact impl_MoveMirror.mono _ _ _
      | exact impl_MoveOn.mono _ _ _ _ _
      | exact laws_sameInts.mono _ _ _
      | exact laws_sameLists.mono _ _ _
      | exact spec_DrawMoveCarry.mono _ _
      | exact spec_MoveCarry.mono _ _ _ _
      | exact LeO.none _
      | refine LeO.ite ?_ ?_
      | refine LeO.bind ?_ (fun _ => ?_)
set_option maxHeartbeats 8000000 in
set_option maxRecDepth 100000 in
theorem laws_FnCarry.calls (k : Nat) (A0 : Option Addr) (c0 : Nat) (l0 : List Int) (r : Bool) (w : World) (hr0 : Kd.C (Kd.int .u8) w A0 l0.length l0) (hc0 : l0.length ≤ c0) (h : laws_FnCarry.f k l0 = some r) :
    Calls Try.prog 5 #[.slice A0 l0.length c0] w fun e w' => e = .returned (.bool r) ∧ Below w.heap.size w w' := by
  have hu27 := Try.underlying27; have HR0 := Aside0.mk hr0; have HC0 := Aside0.mk hc0; clear hr0 hc0; have HB := Aside0.mk (Below.refl w.heap.size w); unfold laws_FnCarry.f at h; have H := h; clear h
  by_cases c2 : (l0.length : Int) > 1048576
  · rw [if_pos c2] at H
    have c2b0 : decide (1048576 < (l0.length : Int)) = true := decide_eq_true c2; have c2b1 : decide (1048576 < l0.length) = true := decide_eq_true (by omega); clear c2; obtain rfl := Option.some.inj H; go_enter Try.func5, Try.ntmps5
    go_wp2
    go_ret
    exact ⟨eR, BU⟩
  · rw [if_neg c2] at H
    have c2b0 : decide (1048576 < (l0.length : Int)) = false := decide_eq_false c2; have c2b1 : decide (1048576 < l0.length) = false := decide_eq_false (by omega); clear c2; obtain ⟨⟨t421, t424, t427⟩, A3, H⟩ := bnd H
    replace H : ((impl_MoveCarry.f k t421 t424 t427).bind fun bt430 => ((spec_MoveCarry.f k t421 t424 t427).bind fun bt434 => (if (bt430.2 != bt434.2) = true then (laws_FnCarry.j0 k t421 t424 t427 bt430.1 bt430.2 bt434.1 bt434.2 true) else ((laws_sameLists.f k bt430.1 bt434.1).bind fun t438 => (if t438 = true then (laws_FnCarry.j0 k t421 t424 t427 bt430.1 bt430.2 bt434.1 bt434.2 (!bt430.2)) else (laws_FnCarry.j0 k t421 t424 t427 bt430.1 bt430.2 bt434.1 bt434.2 true)))))) = some r := H
    obtain ⟨⟨t430, t433⟩, A4, H⟩ := bnd H
    replace H : ((spec_MoveCarry.f k t421 t424 t427).bind fun bt434 => (if (t433 != bt434.2) = true then (laws_FnCarry.j0 k t421 t424 t427 t430 t433 bt434.1 bt434.2 true) else ((laws_sameLists.f k t430 bt434.1).bind fun t438 => (if t438 = true then (laws_FnCarry.j0 k t421 t424 t427 t430 t433 bt434.1 bt434.2 (!t433)) else (laws_FnCarry.j0 k t421 t424 t427 t430 t433 bt434.1 bt434.2 true))))) = some r := H
    obtain ⟨⟨t434, t437⟩, A5, H⟩ := bnd H; replace H : (if (t433 != t437) = true then (laws_FnCarry.j0 k t421 t424 t427 t430 t433 t434 t437 true) else ((laws_sameLists.f k t430 t434).bind fun t438 => (if t438 = true then (laws_FnCarry.j0 k t421 t424 t427 t430 t433 t434 t437 (!t433)) else (laws_FnCarry.j0 k t421 t424 t427 t430 t433 t434 t437 true)))) = some r := H; have HC6 := Aside0.mk H; clear H; go_enter Try.func5, Try.ntmps5
    go_upto_region 6 with (first | ((with_reducible refine gate_callee (f := 27) rfl ?_); refine goesK (some 23) Try.func27 #[.slice A0 l0.length c0] ?_; (with_reducible refine (spec_DrawMoveCarry.calls k _ _ l0 t421 t424 t427 _ ?side1 ?side2 A3.out).mono ?_); (case side1 => exact U HR0.out); (case side2 => exact HC0.out); rintro e w7 ⟨v422, v425, v428, rfl, ho0, ho1, ho2, hb⟩; refine ⟨_, rfl, ?_⟩; have HO423 := Aside0.mk (Kd.Q_lower (Kd.Q_mono (ok' := fun k_ => True) ho0 (fun _ hk_ => trivial)) (below_size BU)); have HO426 := Aside0.mk (Kd.V_lower (Kd.V_mono (ok' := fun k_ => some k_ ≠ (v422 : Value).ownBlock) ho1 (fun k_ hk_ => hk_.2)) (below_size BU)); have HO429 := Aside0.mk (Kd.V_lower (Kd.V_mono (ok' := fun k_ => some k_ ≠ (v422 : Value).ownBlock) ho2 (fun k_ hk_ => hk_.2)) (below_size BU)); replace HB := BS hb; (try clear hb); (try clear ho0); (try clear ho1); (try clear ho2); obtain ⟨Ao8, co8, eo8, _⟩ := Kd.Q_slice HO423.out; subst eo8; obtain ⟨Ao9, co9, eo9⟩ := Kd.V_slice HO426.out; subst eo9; obtain ⟨Ao10, co10, eo10⟩ := Kd.V_slice HO429.out; subst eo10) | ((with_reducible refine gate_callee (f := 28) rfl ?_); refine goesK (some 31) Try.func28 #[.slice Ao8 t421.length co8, .slice Ao9 t424.length co9, .slice Ao10 t427.length co10] ?_; (with_reducible refine (impl_MoveCarry.calls k _ _ t421 _ _ t424 _ _ t427 t430 t433 _ ?side1 ?side2 ?side3 ?side4 ?side5 ?side6 A4.out).mono ?_); (case side1 => exact U ((Kd.Q_reads' HO423.out).2.2)); (case side2 => exact (Kd.Q_reads' HO423.out).2.1); (case side3 => exact U ((Kd.V_reads' HO426.out).2.2)); (case side4 => exact (Kd.V_reads' HO426.out).2.1); (case side5 => exact U ((Kd.V_reads' HO429.out).2.2)); (case side6 => exact (Kd.V_reads' HO429.out).2.1); rintro e w11 ⟨v431, rfl, ho0, hb⟩; refine ⟨_, rfl, ?_⟩; replace HO426 := Aside0.mk (Kd.V_elder' (U HO426.out) (by first | exact Kd.N_base ho0 | exact Kd.S_base ho0) hb); replace HO429 := Aside0.mk (Kd.V_elder' (U HO429.out) (by first | exact Kd.N_base ho0 | exact Kd.S_base ho0) hb); have HO432 := Aside0.mk (Kd.N_lower (Kd.N_mono (ok' := fun k_ => some k_ ≠ (.slice Ao8 t421.length co8 : Value).ownBlock) ho0 (fun k_ hk_ => (Kd.fresh' (Kd.Q_lt (U HO423.out)) k_ hk_))) (below_size BU)); replace HO423 := Aside0.mk (Kd.Q_below (U HO423.out) hb); replace HB := BS hb; (try clear hb); (try clear ho0)) | ((with_reducible refine gate_callee (f := 29) rfl ?_); refine goesK (some 38) Try.func29 #[.slice Ao8 t421.length co8, .slice Ao9 t424.length co9, .slice Ao10 t427.length co10] ?_; (with_reducible refine (spec_MoveCarry.calls k _ _ t421 _ _ t424 _ _ t427 t434 t437 _ ?side1 ?side2 ?side3 ?side4 ?side5 ?side6 A5.out).mono ?_); (case side1 => exact U ((Kd.Q_reads' HO423.out).2.2)); (case side2 => exact (Kd.Q_reads' HO423.out).2.1); (case side3 => exact U ((Kd.V_reads' HO426.out).2.2)); (case side4 => exact (Kd.V_reads' HO426.out).2.1); (case side5 => exact U ((Kd.V_reads' HO429.out).2.2)); (case side6 => exact (Kd.V_reads' HO429.out).2.1); rintro e w12 ⟨v435, rfl, ho0, hb⟩; refine ⟨_, rfl, ?_⟩; replace HO426 := Aside0.mk (Kd.V_elder' (U HO426.out) (by first | exact Kd.N_base ho0 | exact Kd.S_base ho0) hb); replace HO429 := Aside0.mk (Kd.V_elder' (U HO429.out) (by first | exact Kd.N_base ho0 | exact Kd.S_base ho0) hb); have HO436 := Aside0.mk (Kd.N_lower (Kd.N_mono (ok' := fun k_ => some k_ ≠ (.slice Ao8 t421.length co8 : Value).ownBlock ∧ some k_ ≠ (v431 : Value).ownBlock) ho0 (fun k_ hk_ => ⟨(Kd.fresh' (Kd.Q_lt (U HO423.out)) k_ hk_), (Kd.fresh' (Kd.N_lt (U HO432.out)) k_ hk_)⟩)) (below_size BU)); replace HO423 := Aside0.mk (Kd.Q_below (U HO423.out) hb); replace HO432 := Aside0.mk (Kd.N_elder' (U HO432.out) (by first | exact Kd.N_base ho0 | exact Kd.S_base ho0) hb); replace HB := BS hb; (try clear hb); (try clear ho0)))
    (try simp only [Act.put, List.setIfInBounds_toArray, List.set_cons_zero, List.set_cons_succ])
    go_cut [53] (fun v53 wc => ∃ (kq : Nat) (x53_5 : Bool), v53 = .bool x53_5 ∧ Aside0 (laws_FnCarry.j0 kq t421 t424 t427 t430 t433 t434 t437 x53_5 = some r) ∧ Aside0 (kq ≤ k) ∧ Aside0 (Kd.Q (Kd.int .i64) 3 wc w.heap.size (fun _ => True) (.slice Ao8 t421.length co8) t421) ∧ Aside0 (Kd.V (Kd.int .i64) 3 wc w.heap.size (fun k_ => some k_ ≠ ((.slice Ao8 t421.length co8) : Value).ownBlock ∧ some k_ ≠ (v431 : Value).ownBlock ∧ some k_ ≠ (v435 : Value).ownBlock) (.slice Ao9 t424.length co9) t424) ∧ Aside0 (Kd.V (Kd.int .i64) 3 wc w.heap.size (fun k_ => some k_ ≠ ((.slice Ao8 t421.length co8) : Value).ownBlock ∧ some k_ ≠ (v431 : Value).ownBlock ∧ some k_ ≠ (v435 : Value).ownBlock) (.slice Ao10 t427.length co10) t427) ∧ Aside0 (Kd.N (Kd.slice 3 (Kd.int .i64)) 23 wc w.heap.size (fun k_ => some k_ ≠ ((.slice Ao8 t421.length co8) : Value).ownBlock ∧ some k_ ≠ (v435 : Value).ownBlock) v431 t430) ∧ Aside0 (Kd.N (Kd.slice 3 (Kd.int .i64)) 23 wc w.heap.size (fun k_ => some k_ ≠ ((.slice Ao8 t421.length co8) : Value).ownBlock ∧ some k_ ≠ (v431 : Value).ownBlock) v435 t434) ∧ Aside0 (Below w.heap.size w wc))
    case first =>
      have H := HC6.out; clear HC6
      by_cases c13 : (t433 != t437) = true
      · rw [if_pos c13] at H
        have c13b0 : (t433 != t437) = true := c13
        (try (have c13b1 : decide (t433 = t437) = false := by simpa using c13))
        (try (have c13b2 : (t433 == t437) = false := by simpa using c13))
        (try (have c13b3 : ¬ (t433 = t437) := by simpa using c13))
        clear c13
        (first | rw [c13b0] | (simp only [i64_w, i32_w]; rw [c13b0]) | skip)
        have H' := Aside0.mk H; clear H
        go_wp2
        go_meet
        case rel => exact ⟨_, (true), sR, H', ⟨oR⟩, ⟨U HO423.out⟩, ⟨Kd.VM HO426.out (fun _ hk => ⟨hk.1.1, ⟨hk.1.2, hk.2⟩⟩)⟩, ⟨Kd.VM HO429.out (fun _ hk => ⟨hk.1.1, ⟨hk.1.2, hk.2⟩⟩)⟩, ⟨U HO432.out⟩, ⟨U HO436.out⟩, ⟨BU⟩⟩
      · rw [if_neg c13] at H
        have c13b0 : (t433 != t437) = false := by simpa using c13
        (try (have c13b1 : decide (t433 = t437) = true := by simpa using c13))
        (try (have c13b2 : (t433 == t437) = true := by simpa using c13))
        clear c13
        (first | rw [c13b0] | (simp only [i64_w, i32_w]; rw [c13b0]) | skip)
        obtain ⟨t438, A14, H⟩ := bnd H
        by_cases c15 : t438 = true
        · subst c15
          replace H := ifT H; have H' := Aside0.mk H; clear H; obtain ⟨Ao16, co16, eo16⟩ := Kd.N_slice HO432.out; subst eo16; obtain ⟨Ao17, co17, eo17⟩ := Kd.N_slice HO436.out; subst eo17
          go_wp2_with (first | (go_at_call 30; (with_reducible refine (laws_sameLists.calls k _ _ t430 _ _ t434 true _ ?side1 ?side2 ?side3 ?side4 A14.out).mono ?_); (case side1 => exact U ((Kd.N_reads' HO432.out).2.2)); (case side2 => exact (Kd.N_reads' HO432.out).2.1); (case side3 => exact U ((Kd.N_reads' HO436.out).2.2)); (case side4 => exact (Kd.N_reads' HO436.out).2.1); rintro e w' ⟨rfl, ⟨nd, rfl⟩⟩))
          go_meet
          case rel => exact ⟨_, (!t433), sR, H', ⟨oR⟩, ⟨U HO423.out⟩, ⟨Kd.VM HO426.out (fun _ hk => ⟨hk.1.1, ⟨hk.1.2, hk.2⟩⟩)⟩, ⟨Kd.VM HO429.out (fun _ hk => ⟨hk.1.1, ⟨hk.1.2, hk.2⟩⟩)⟩, ⟨U HO432.out⟩, ⟨U HO436.out⟩, ⟨BU⟩⟩
        · replace c15 := Bool.eq_false_iff.mpr c15
          subst c15; replace H := ifF H; have H' := Aside0.mk H; clear H; obtain ⟨Ao18, co18, eo18⟩ := Kd.N_slice HO432.out; subst eo18; obtain ⟨Ao19, co19, eo19⟩ := Kd.N_slice HO436.out; subst eo19
          go_wp2_with (first | (go_at_call 30; (with_reducible refine (laws_sameLists.calls k _ _ t430 _ _ t434 false _ ?side1 ?side2 ?side3 ?side4 A14.out).mono ?_); (case side1 => exact U ((Kd.N_reads' HO432.out).2.2)); (case side2 => exact (Kd.N_reads' HO432.out).2.1); (case side3 => exact U ((Kd.N_reads' HO436.out).2.2)); (case side4 => exact (Kd.N_reads' HO436.out).2.1); rintro e w' ⟨rfl, ⟨nd, rfl⟩⟩))
          go_meet
          case rel => exact ⟨_, (true), sR, H', ⟨oR⟩, ⟨U HO423.out⟩, ⟨Kd.VM HO426.out (fun _ hk => ⟨hk.1.1, ⟨hk.1.2, hk.2⟩⟩)⟩, ⟨Kd.VM HO429.out (fun _ hk => ⟨hk.1.1, ⟨hk.1.2, hk.2⟩⟩)⟩, ⟨U HO432.out⟩, ⟨U HO436.out⟩, ⟨BU⟩⟩
    case rest =>
      clear HC6; (try clear c2); (try clear c2b0); (try clear c2b1); obtain ⟨kq, x53_5, rfl, HA, HJ5, HO_3, HO_4, HO_5, HO_6, HO_8, HB⟩ := hcut; cases kq with
      | zero => exact absurd HA.out (by simp [laws_FnCarry.j0])
      | succ kj5 =>
        have H := HA.out; clear HA; simp only [laws_FnCarry.j0] at H
        by_cases c20 : x53_5 = true
        · subst c20
          replace H := ifT H
          by_cases c21 : (t433 == t437) = true
          · rw [if_pos c21] at H
            have c21b0 : (t433 == t437) = true := c21
            (try (have c21b1 : decide (t433 = t437) = true := by simpa using c21))
            (try (have c21b2 : (t433 == t437) = true := by simpa using c21))
            clear c21; obtain ⟨t439, A22, H⟩ := bnd H; obtain rfl := Option.some.inj H; obtain ⟨Ao23, co23, eo23⟩ := Kd.N_slice HO_6.out; subst eo23; obtain ⟨Ao24, co24, eo24⟩ := Kd.N_slice HO_8.out; subst eo24
            go_wp2_with (first | (go_at_call 30; (with_reducible refine (laws_sameLists.calls kj5 _ _ t430 _ _ t434 t439 _ ?side1 ?side2 ?side3 ?side4 A22.out).mono ?_); (case side1 => exact U ((Kd.N_reads' HO_6.out).2.2)); (case side2 => exact (Kd.N_reads' HO_6.out).2.1); (case side3 => exact U ((Kd.N_reads' HO_8.out).2.2)); (case side4 => exact (Kd.N_reads' HO_8.out).2.1); rintro e w' ⟨rfl, ⟨nd, rfl⟩⟩))
            go_ret
            exact ⟨eR, BU⟩
          · rw [if_neg c21] at H
            exact absurd H (by simp)
        · replace c20 := Bool.eq_false_iff.mpr c20
          subst c20; replace H := ifF H; have H' := Aside0.mk H; clear H
          go_wp2
          go_loopg [10, 11, 12, 13] kj5 (fun kq v10 v11 v12 v13 w' => ∃ (x10_2 : List Int) (x11_2 : Int) (x12_2 : Bool) (x13_2 : Int), v11 = .int .i64 x11_2 ∧ v12 = .bool x12_2 ∧ v13 = .int .i64 x13_2 ∧ Aside0 (laws_FnCarry.l0 kq t421 t427 t430 x10_2 x11_2 x12_2 x13_2 = some r) ∧ Aside0 (kq ≤ kj5) ∧ Aside0 (Kd.Q (Kd.int .i64) 3 w' w.heap.size (fun _ => True) (.slice Ao8 t421.length co8) t421) ∧ Aside0 (Kd.V (Kd.int .i64) 3 w' w.heap.size (fun k_ => some k_ ≠ ((.slice Ao8 t421.length co8) : Value).ownBlock ∧ some k_ ≠ (v431 : Value).ownBlock) (.slice Ao10 t427.length co10) t427) ∧ Aside0 (Kd.N (Kd.slice 3 (Kd.int .i64)) 23 w' w.heap.size (fun k_ => some k_ ≠ ((.slice Ao8 t421.length co8) : Value).ownBlock) v431 t430) ∧ Aside0 (Kd.V (Kd.int .i64) 3 w' w.heap.size (fun k_ => some k_ ≠ ((.slice Ao8 t421.length co8) : Value).ownBlock ∧ some k_ ≠ (v431 : Value).ownBlock) v10 x10_2) ∧ Aside0 (Below w.heap.size w w'))
          case atStart => exact ⟨(t424), (1), (true), (0), sR, sR, sR, H', ⟨Nat.le_refl _⟩, ⟨U HO_3.out⟩, ⟨Kd.VM HO_5.out (fun _ hk => ⟨hk.1, hk.2.1⟩)⟩, ⟨Kd.NM HO_6.out (fun _ hk => hk.1)⟩, ⟨Kd.VM HO_4.out (fun _ hk => ⟨hk.1, hk.2.1⟩)⟩, ⟨BU⟩⟩
          case round =>
            clear H'; (try clear c2); (try clear c2b0); (try clear c2b1); (try clear c20); obtain ⟨x10_2, x11_2, x12_2, x13_2, rfl, rfl, rfl, HA, HK2, HO_3, HO_5, HO_6, HO_10, HB⟩ := hrel; cases gk with
            | zero => exact absurd HA.out (by simp [laws_FnCarry.l0])
            | succ k2 =>
              have H := HA.out; clear HA; simp only [laws_FnCarry.l0] at H; have HC25 := Aside0.mk H; clear H
              go_upto_region 12 with (fail)
              go_cut [73] (fun v73 wc => ∃ (kq : Nat) (x73_24 : Bool), v73 = .bool x73_24 ∧ Aside0 (laws_FnCarry.j2 kq t421 t427 t430 x10_2 x11_2 x12_2 x13_2 x73_24 = some r) ∧ Aside0 (kq ≤ k2) ∧ Aside0 (Kd.Q (Kd.int .i64) 3 wc w.heap.size (fun _ => True) (.slice Ao8 t421.length co8) t421) ∧ Aside0 (Kd.V (Kd.int .i64) 3 wc w.heap.size (fun k_ => some k_ ≠ ((.slice Ao8 t421.length co8) : Value).ownBlock ∧ some k_ ≠ (v431 : Value).ownBlock) (.slice Ao10 t427.length co10) t427) ∧ Aside0 (Kd.N (Kd.slice 3 (Kd.int .i64)) 23 wc w.heap.size (fun k_ => some k_ ≠ ((.slice Ao8 t421.length co8) : Value).ownBlock) v431 t430) ∧ Aside0 (Kd.V (Kd.int .i64) 3 wc w.heap.size (fun k_ => some k_ ≠ ((.slice Ao8 t421.length co8) : Value).ownBlock ∧ some k_ ≠ (v431 : Value).ownBlock) u10 x10_2) ∧ Aside0 (Below w.heap.size w wc))
              case first =>
                have H := HC25.out; clear HC25
                by_cases c26 : x13_2 < (t430.length : Int)
                · rw [if_pos c26] at H
                  have c26b0 : decide (x13_2 < (t430.length : Int)) = true := decide_eq_true c26; clear c26
                  (first | rw [c26b0] | (simp only [i64_w, i32_w]; rw [c26b0]) | skip)
                  by_cases c27 : x12_2 = true
                  · subst c27
                    replace H := ifT H; have H' := Aside0.mk H; clear H; obtain ⟨Ao28, co28, eo28⟩ := Kd.N_slice HO_6.out; subst eo28
                    go_wp2
                    go_meet
                    case rel => exact ⟨_, ((x11_2 == 1)), sR, H', ⟨by have := HJ5.out; have := HK2.out; first | omega | exact Nat.le_refl _⟩, ⟨U HO_3.out⟩, ⟨U HO_5.out⟩, ⟨U HO_6.out⟩, ⟨U HO_10.out⟩, ⟨BU⟩⟩
                  · replace c27 := Bool.eq_false_iff.mpr c27
                    subst c27; replace H := ifF H; have H' := Aside0.mk H; clear H; obtain ⟨Ao29, co29, eo29⟩ := Kd.N_slice HO_6.out; subst eo29
                    go_wp2
                    go_meet
                    case rel => exact ⟨_, (false), sR, H', ⟨by have := HJ5.out; have := HK2.out; first | omega | exact Nat.le_refl _⟩, ⟨U HO_3.out⟩, ⟨U HO_5.out⟩, ⟨U HO_6.out⟩, ⟨U HO_10.out⟩, ⟨BU⟩⟩
                · rw [if_neg c26] at H
                  have c26b0 : decide (x13_2 < (t430.length : Int)) = false := decide_eq_false c26; clear c26
                  (first | rw [c26b0] | (simp only [i64_w, i32_w]; rw [c26b0]) | skip)
                  have H' := Aside0.mk H; clear H; obtain ⟨Ao30, co30, eo30⟩ := Kd.N_slice HO_6.out; subst eo30
                  go_wp2
                  go_meet
                  case rel => exact ⟨_, (false), sR, H', ⟨by have := HJ5.out; have := HK2.out; first | omega | exact Nat.le_refl _⟩, ⟨U HO_3.out⟩, ⟨U HO_5.out⟩, ⟨U HO_6.out⟩, ⟨U HO_10.out⟩, ⟨BU⟩⟩
              case rest =>
                clear HC25; (try clear c2); (try clear c2b0); (try clear c2b1); (try clear c20); obtain ⟨kq, x73_24, rfl, HA, HJ24, HO_3, HO_5, HO_6, HO_10, HB⟩ := hcut; cases kq with
                | zero => exact absurd HA.out (by simp [laws_FnCarry.j2])
                | succ kj24 =>
                  have H := HA.out; clear HA; simp only [laws_FnCarry.j2] at H
                  by_cases c31 : x73_24 = true
                  · subst c31
                    replace H := ifT H
                    by_cases c32 : 0 ≤ x13_2
                    · rw [if_pos c32] at H
                      have c32b0 : decide (0 ≤ x13_2) = true := decide_eq_true c32; clear c32
                      by_cases c33 : x13_2 < (t430.length : Int)
                      · rw [if_pos c33] at H
                        have c33b0 : decide (x13_2 < (t430.length : Int)) = true := decide_eq_true c33; clear c33; obtain ⟨⟨t441, t444, t445⟩, A34, H⟩ := bnd H; replace H : (if t445 = true then ((impl_MoveOn.f kj24 t421 t441 t444 x10_2).bind fun bt447 => (laws_FnCarry.l0 kj24 t421 t427 t430 bt447.1 bt447.2.1 bt447.2.2 (wrap64 (x13_2 + 1)))) else (laws_FnCarry.l0 kj24 t421 t427 t430 x10_2 x11_2 t445 (wrap64 (x13_2 + 1)))) = some r := H
                        by_cases c35 : t445 = true
                        · subst c35
                          replace H := ifT H; obtain ⟨⟨t447, t450, t451⟩, A36, H⟩ := bnd H; replace H : (laws_FnCarry.l0 kj24 t421 t427 t430 t447 t450 t451 (wrap64 (x13_2 + 1))) = some r := H; have H' := Aside0.mk H; clear H; obtain ⟨Ao37, co37, eo37⟩ := Kd.N_slice HO_6.out; subst eo37; have p440 : 0 ≤ (x13_2 : Int) := oD; have q440 : x13_2 < (t430.length : Int) := oD; obtain ⟨ad440, A440_0, c440_0, e440, hx440_0, hl440_0, hi440_0⟩ := at_L1 (Kd.N_reads' HO_6.out).2.2 x13_2 p440 q440; cases e440; obtain ⟨ce440, hce440, hMe440, hcc440⟩ := Kd.N_get HO_6.out [] x13_2 p440 (by first | exact q440 | exact oD | (have e_ := (Kd.N_reads' HO_6.out).1; omega)); obtain ⟨ua440_0, uc440_0, rfl, ul440_0, ge440_0⟩ := Kd.FK_slice_open hMe440; have hv440_0 := hcc440 0 _ rfl; rw [Nat.add_zero, show ((Kd.slice 3 (Kd.int .i64))).sz = 1 from rfl, Nat.mul_one] at hv440_0; replace hv440_0 := Option.some.inj (hv440_0.symm.trans hx440_0)
                          injection hv440_0 with hva_ hvn_ hvc_
                          rw [hva_] at ge440_0; rw [hvc_] at ul440_0; have HL440_0 := Aside0.mk (show Kd.V (Kd.int .i64) 3 _ w.heap.size _ _ (rd_L1 t430 x13_2) from Kd.V_mk ul440_0 ge440_0); clear hva_ hvn_ hvc_ ge440_0 ul440_0 hcc440 hce440; have HR440_0 := Aside0.mk hi440_0; have HC440_0 := Aside0.mk hl440_0; clear hi440_0 hl440_0; replace p440 := eq_true p440; replace q440 := eq_true q440
                          go_wp2_with (first | ((with_reducible refine gate_callee (f := 17) rfl ?_); refine goesK (some 82) Try.func17 #[.slice Ao8 t421.length co8, .slice A440_0 (rd_L1 t430 x13_2).length c440_0] ?_; (with_reducible refine (impl_MoveMirror.calls kj24 _ _ t421 _ _ (rd_L1 t430 x13_2) t441 t444 true _ ?side1 ?side2 ?side3 ?side4 A34.out).mono ?_); (case side1 => exact U ((Kd.Q_reads' HO_3.out).2.2)); (case side2 => exact (Kd.Q_reads' HO_3.out).2.1); (case side3 => exact U (by repeat (first | (with_reducible exact HR440_0.out) | (with_reducible refine Kd.C_alloc ?_ _) | (with_reducible refine Kd.C_drewN ?_ _) | (with_reducible refine Kd.C_drew ?_) | exact HR440_0.out))); (case side4 => exact HC440_0.out); rintro e w38 ⟨v442, rfl, ho0, hb⟩; refine ⟨_, rfl, ?_⟩; replace HO_5 := Aside0.mk (Kd.V_elder' (U HO_5.out) (by first | exact Kd.N_base ho0 | exact Kd.S_base ho0) hb); replace HO_10 := Aside0.mk (Kd.V_elder' (U HO_10.out) (by first | exact Kd.N_base ho0 | exact Kd.S_base ho0) hb); replace HL440_0 := Aside0.mk (Kd.V_elder' (U HL440_0.out) (by first | exact Kd.N_base ho0 | exact Kd.S_base ho0) hb); have HO443 := Aside0.mk (Kd.N_lower (Kd.N_mono (ok' := fun k_ => some k_ ≠ (.slice Ao8 t421.length co8 : Value).ownBlock ∧ some k_ ≠ (.slice (some ad440) t430.length co37 : Value).ownBlock) (Kd.S_N (Kd.S_bound ho0)) (fun k_ hk_ => ⟨(Kd.fresh' (Kd.Q_lt (U HO_3.out)) k_ hk_.2.1), (Kd.fresh' (Kd.N_lt (U HO_6.out)) k_ hk_.2.1)⟩)) (below_size BU)); replace HO_3 := Aside0.mk (Kd.Q_below (U HO_3.out) hb); replace HO_6 := Aside0.mk (Kd.N_elder' (U HO_6.out) (by first | exact Kd.N_base ho0 | exact Kd.S_base ho0) hb); replace HR440_0 := Aside0.mk (Kd.C_below (by repeat (first | (with_reducible exact HR440_0.out) | (with_reducible refine Kd.C_alloc ?_ _) | (with_reducible refine Kd.C_drewN ?_ _) | (with_reducible refine Kd.C_drew ?_) | exact HR440_0.out)) hb); replace HB := BS hb; (try clear hb); (try clear ho0)) | ((with_reducible refine gate_dst (N := 14) rfl ?_); (try (refine gate_guard (by rfl) ?_; dsimp only)); refine boxE (N := 14) (cs := #[.slice none 0 0, .int .i64 0]) (t := 27) ?_; intro gb446 hg w39 hbox hb; replace HO_3 := Aside0.mk (Kd.Q_below (U HO_3.out) hb); replace HO_5 := Aside0.mk (Kd.V_below (Kd.V_elderB (U HO_5.out) gb446 (Nat.le_of_eq hg.symm)) hb); replace HO_6 := Aside0.mk (Kd.N_below (Kd.N_elderB (U HO_6.out) gb446 (Nat.le_of_eq hg.symm)) hb); replace HO_10 := Aside0.mk (Kd.V_below (Kd.V_elderB (U HO_10.out) gb446 (Nat.le_of_eq hg.symm)) hb); replace HL440_0 := Aside0.mk (Kd.V_below (Kd.V_elderB (U HL440_0.out) gb446 (Nat.le_of_eq hg.symm)) hb); replace HO443 := Aside0.mk (Kd.N_below (Kd.N_elderB (U HO443.out) gb446 (Nat.le_of_eq hg.symm)) hb); replace HR440_0 := Aside0.mk (Kd.C_below (by repeat (first | (with_reducible exact HR440_0.out) | (with_reducible refine Kd.C_alloc ?_ _) | (with_reducible refine Kd.C_drewN ?_ _) | (with_reducible refine Kd.C_drew ?_) | exact HR440_0.out)) hb); have BK446 := Aside0.mk (hbox); have GW446 := GS w hg; have GE446 := GS w hg; replace HB := BS hb; clear hb hbox hg; obtain ⟨Ao40, co40, eo40⟩ := Kd.N_slice HO443.out; subst eo40; obtain ⟨hcz41_0, hcz41_1, hfz41_0, hfz41_1⟩ := bcf BK446; obtain ⟨Ao42, co42, eo42⟩ := Kd.V_slice HO_10.out; subst eo42) | ((with_reducible refine gate_callee (f := 23) rfl ?_); refine goesK (some 91) Try.func23 #[.slice Ao8 t421.length co8, .agg #[.slice Ao40 t441.length co40, .int .i64 t444], .slice Ao42 x10_2.length co42] ?_; (with_reducible refine (impl_MoveOn.calls kj24 _ _ t421 _ _ t441 t444 _ _ x10_2 t447 t450 t451 _ ?side1 ?side2 ?side3 ?side4 ?side5 ?side6 A36.out).mono ?_); (case side1 => refine (Kd.Q_reads' (e := 3) (base := w.heap.size) (ok := fun k_ => True) (n := t421.length) (c := co8) ?_).2.2; exact (Kd.QM (Kd.Q_far (p := ⟨gb446, 1, none⟩) (Kd.Q_far (p := ⟨gb446, 0, none⟩) (Kd.Q_types HO_3.out BK446.out (by decide)) (fun _ hk => hk.2) (.slice Ao40 t441.length co40)) (fun _ hk => hk.2) (.int .i64 t444)) (fun _ h_ => h_.1))); (case side2 => exact (Kd.Q_reads' HO_3.out).2.1); (case side3 => refine (Kd.N_reads' (e := 23) (base := w.heap.size) (ok := fun k_ => ((some k_ ≠ (.slice Ao8 t421.length co8 : Value).ownBlock ∧ some k_ ≠ (.slice (some ad440) t430.length co37 : Value).ownBlock) ∧ k_ ≠ gb446)) (n := t441.length) (c := co40) ?_).2.2; exact (Kd.NM (Kd.N_far (p := ⟨gb446, 1, none⟩) (Kd.N_far (p := ⟨gb446, 0, none⟩) (Kd.N_mono HO443.out (fun k_ hk => (⟨hk, hk.2⟩ : _ ∧ k_ ≠ gb446))) (fun _ hk => hk.2) (.slice Ao40 t441.length co40)) (fun _ hk => hk.2) (.int .i64 t444)) (fun _ h_ => h_.1))); (case side4 => exact (Kd.N_reads' HO443.out).2.1); (case side5 => refine (Kd.V_reads' (e := 3) (base := w.heap.size) (ok := fun k_ => (((some k_ ≠ (.slice Ao8 t421.length co8 : Value).ownBlock ∧ some k_ ≠ (.slice (some ad440) t430.length co37 : Value).ownBlock) ∧ some k_ ≠ (.slice Ao40 t441.length co40 : Value).ownBlock) ∧ k_ ≠ gb446)) (n := x10_2.length) (c := co42) ?_).2.2; exact (Kd.VM (Kd.V_far (p := ⟨gb446, 1, none⟩) (Kd.V_far (p := ⟨gb446, 0, none⟩) (Kd.V_mono HO_10.out (fun k_ hk => (⟨hk, hk.2⟩ : _ ∧ k_ ≠ gb446))) (fun _ hk => hk.2) (.slice Ao40 t441.length co40)) (fun _ hk => hk.2) (.int .i64 t444)) (fun _ h_ => h_.1))); (case side6 => exact (Kd.V_reads' HO_10.out).2.1); rintro e w43 ⟨v448, rfl, ho0, hb⟩; refine ⟨_, rfl, ?_⟩; replace HO_5 := Aside0.mk (Kd.V_elder' (Kd.VM (Kd.V_far (p := ⟨gb446, 1, none⟩) (Kd.V_far (p := ⟨gb446, 0, none⟩) (Kd.V_mono HO_5.out (fun k_ hk => (⟨hk, hk.2⟩ : _ ∧ k_ ≠ gb446))) (fun _ hk => hk.2) (.slice Ao40 t441.length co40)) (fun _ hk => hk.2) (.int .i64 t444)) (fun _ h_ => h_.1)) (Kd.R_base ho0) hb); replace HO_6 := Aside0.mk (Kd.N_elder' (Kd.NM (Kd.N_far (p := ⟨gb446, 1, none⟩) (Kd.N_far (p := ⟨gb446, 0, none⟩) (Kd.N_mono HO_6.out (fun k_ hk => (⟨hk, hk.2⟩ : _ ∧ k_ ≠ gb446))) (fun _ hk => hk.2) (.slice Ao40 t441.length co40)) (fun _ hk => hk.2) (.int .i64 t444)) (fun _ h_ => h_.1)) (Kd.R_base ho0) hb); replace HO_10 := Aside0.mk (Kd.V_elder' (Kd.VM (Kd.V_far (p := ⟨gb446, 1, none⟩) (Kd.V_far (p := ⟨gb446, 0, none⟩) (Kd.V_mono HO_10.out (fun k_ hk => (⟨hk, hk.2⟩ : _ ∧ k_ ≠ gb446))) (fun _ hk => hk.2) (.slice Ao40 t441.length co40)) (fun _ hk => hk.2) (.int .i64 t444)) (fun _ h_ => h_.1)) (Kd.R_base ho0) hb); replace HO443 := Aside0.mk (Kd.N_elder' (Kd.NM (Kd.N_far (p := ⟨gb446, 1, none⟩) (Kd.N_far (p := ⟨gb446, 0, none⟩) (Kd.N_mono HO443.out (fun k_ hk => (⟨hk, hk.2⟩ : _ ∧ k_ ≠ gb446))) (fun _ hk => hk.2) (.slice Ao40 t441.length co40)) (fun _ hk => hk.2) (.int .i64 t444)) (fun _ h_ => h_.1)) (Kd.R_base ho0) hb); have HO449 := Aside0.mk (Kd.R_lower (Kd.R_new' ho0 (Kd.Q_lt (Kd.QM (Kd.Q_far (p := ⟨gb446, 1, none⟩) (Kd.Q_far (p := ⟨gb446, 0, none⟩) (Kd.Q_types HO_3.out BK446.out (by decide)) (fun _ hk => hk.2) (.slice Ao40 t441.length co40)) (fun _ hk => hk.2) (.int .i64 t444)) (fun _ h_ => h_.1)))) (below_size BU)); replace HO_3 := Aside0.mk (Kd.Q_elder' (Kd.QM (Kd.Q_far (p := ⟨gb446, 1, none⟩) (Kd.Q_far (p := ⟨gb446, 0, none⟩) (Kd.Q_types HO_3.out BK446.out (by decide)) (fun _ hk => hk.2) (.slice Ao40 t441.length co40)) (fun _ hk => hk.2) (.int .i64 t444)) (fun _ h_ => h_.1)) (Kd.R_base ho0) hb); replace HR440_0 := Aside0.mk (Kd.C_below ((Kd.V_reads' (Kd.VM (Kd.V_far (p := ⟨gb446, 1, none⟩) (Kd.V_far (p := ⟨gb446, 0, none⟩) (Kd.V_mono HL440_0.out (fun k_ hk => (⟨hk, hk.2⟩ : _ ∧ k_ ≠ gb446))) (fun _ hk => hk.2) (.slice Ao40 t441.length co40)) (fun _ hk => hk.2) (.int .i64 t444)) (fun _ h_ => h_.1))).2.2) hb); replace HL440_0 := Aside0.mk (Kd.V_elder' (Kd.VM (Kd.V_far (p := ⟨gb446, 1, none⟩) (Kd.V_far (p := ⟨gb446, 0, none⟩) (Kd.V_mono HL440_0.out (fun k_ hk => (⟨hk, hk.2⟩ : _ ∧ k_ ≠ gb446))) (fun _ hk => hk.2) (.slice Ao40 t441.length co40)) (fun _ hk => hk.2) (.int .i64 t444)) (fun _ h_ => h_.1)) (Kd.R_base ho0) hb); replace BK446 := Aside0.mk (blk_below (g := gb446) (o := .cells #[.slice Ao40 t441.length co40, .int .i64 t444] 27 (0, 0)) (by (with_reducible repeat (first | refine blk_drewN ?_ _ | refine blk_drew ?_ | refine blk_alloc ?_ _)); refine blk_put (cs := #[.slice Ao40 t441.length co40, .int .i64 0]) ?_ 1 _ rfl; (with_reducible repeat (first | refine blk_drewN ?_ _ | refine blk_drew ?_ | refine blk_alloc ?_ _)); refine blk_put (cs := #[.slice none 0 0, .int .i64 0]) ?_ 0 _ rfl; (with_reducible repeat (first | refine blk_drewN ?_ _ | refine blk_drew ?_ | refine blk_alloc ?_ _)); exact BK446.out) hb); replace HB := BS hb; (try clear hb); (try clear ho0)))
                          go_roundg kj24
                          case measure => have := HJ5.out; have := HK2.out; have := HJ24.out; omega
                          case rel => exact ⟨(t447), (t450), (t451), (wrap64 (x13_2 + 1)), sR, sR, sR, H', ⟨by have := HJ5.out; have := HK2.out; have := HJ24.out; omega⟩, ⟨Kd.QM HO_3.out (fun _ hk => trivial)⟩, ⟨Kd.VM HO_5.out (fun _ hk => ⟨hk.1.1.1.1, hk.1.1.1.2⟩)⟩, ⟨Kd.NM HO_6.out (fun _ hk => hk.1.1.1)⟩, ⟨Kd.R_V (Kd.RM (Kd.R_apart' HO449.out (Kd.N_typed HO_6.out) (by decide)) (fun _ hk => ⟨hk.1.2, hk.2⟩))⟩, ⟨BU⟩⟩
                        · replace c35 := Bool.eq_false_iff.mpr c35
                          subst c35; replace H := ifF H; have H' := Aside0.mk H; clear H; obtain ⟨Ao44, co44, eo44⟩ := Kd.N_slice HO_6.out; subst eo44; have p440 : 0 ≤ (x13_2 : Int) := oD; have q440 : x13_2 < (t430.length : Int) := oD; obtain ⟨ad440, A440_0, c440_0, e440, hx440_0, hl440_0, hi440_0⟩ := at_L1 (Kd.N_reads' HO_6.out).2.2 x13_2 p440 q440; cases e440; obtain ⟨ce440, hce440, hMe440, hcc440⟩ := Kd.N_get HO_6.out [] x13_2 p440 (by first | exact q440 | exact oD | (have e_ := (Kd.N_reads' HO_6.out).1; omega)); obtain ⟨ua440_0, uc440_0, rfl, ul440_0, ge440_0⟩ := Kd.FK_slice_open hMe440; have hv440_0 := hcc440 0 _ rfl; rw [Nat.add_zero, show ((Kd.slice 3 (Kd.int .i64))).sz = 1 from rfl, Nat.mul_one] at hv440_0; replace hv440_0 := Option.some.inj (hv440_0.symm.trans hx440_0)
                          injection hv440_0 with hva_ hvn_ hvc_
                          rw [hva_] at ge440_0; rw [hvc_] at ul440_0; have HL440_0 := Aside0.mk (show Kd.V (Kd.int .i64) 3 _ w.heap.size _ _ (rd_L1 t430 x13_2) from Kd.V_mk ul440_0 ge440_0); clear hva_ hvn_ hvc_ ge440_0 ul440_0 hcc440 hce440; have HR440_0 := Aside0.mk hi440_0; have HC440_0 := Aside0.mk hl440_0; clear hi440_0 hl440_0; replace p440 := eq_true p440; replace q440 := eq_true q440
                          go_wp2_with (first | ((with_reducible refine gate_callee (f := 17) rfl ?_); refine goesK (some 82) Try.func17 #[.slice Ao8 t421.length co8, .slice A440_0 (rd_L1 t430 x13_2).length c440_0] ?_; (with_reducible refine (impl_MoveMirror.calls kj24 _ _ t421 _ _ (rd_L1 t430 x13_2) t441 t444 false _ ?side1 ?side2 ?side3 ?side4 A34.out).mono ?_); (case side1 => exact U ((Kd.Q_reads' HO_3.out).2.2)); (case side2 => exact (Kd.Q_reads' HO_3.out).2.1); (case side3 => exact U (by repeat (first | (with_reducible exact HR440_0.out) | (with_reducible refine Kd.C_alloc ?_ _) | (with_reducible refine Kd.C_drewN ?_ _) | (with_reducible refine Kd.C_drew ?_) | exact HR440_0.out))); (case side4 => exact HC440_0.out); rintro e w45 ⟨v442, rfl, ho0, hb⟩; refine ⟨_, rfl, ?_⟩; replace HO_5 := Aside0.mk (Kd.V_elder' (U HO_5.out) (by first | exact Kd.N_base ho0 | exact Kd.S_base ho0) hb); replace HO_10 := Aside0.mk (Kd.V_elder' (U HO_10.out) (by first | exact Kd.N_base ho0 | exact Kd.S_base ho0) hb); replace HL440_0 := Aside0.mk (Kd.V_elder' (U HL440_0.out) (by first | exact Kd.N_base ho0 | exact Kd.S_base ho0) hb); have HO443 := Aside0.mk (Kd.N_lower (Kd.N_mono (ok' := fun k_ => some k_ ≠ (.slice Ao8 t421.length co8 : Value).ownBlock ∧ some k_ ≠ (.slice (some ad440) t430.length co44 : Value).ownBlock) (Kd.S_N (Kd.S_bound ho0)) (fun k_ hk_ => ⟨(Kd.fresh' (Kd.Q_lt (U HO_3.out)) k_ hk_.2.1), (Kd.fresh' (Kd.N_lt (U HO_6.out)) k_ hk_.2.1)⟩)) (below_size BU)); replace HO_3 := Aside0.mk (Kd.Q_below (U HO_3.out) hb); replace HO_6 := Aside0.mk (Kd.N_elder' (U HO_6.out) (by first | exact Kd.N_base ho0 | exact Kd.S_base ho0) hb); replace HR440_0 := Aside0.mk (Kd.C_below (by repeat (first | (with_reducible exact HR440_0.out) | (with_reducible refine Kd.C_alloc ?_ _) | (with_reducible refine Kd.C_drewN ?_ _) | (with_reducible refine Kd.C_drew ?_) | exact HR440_0.out)) hb); replace HB := BS hb; (try clear hb); (try clear ho0)) | ((with_reducible refine gate_dst (N := 14) rfl ?_); (try (refine gate_guard (by rfl) ?_; dsimp only)); refine boxE (N := 14) (cs := #[.slice none 0 0, .int .i64 0]) (t := 27) ?_; intro gb446 hg w46 hbox hb; replace HO_3 := Aside0.mk (Kd.Q_below (U HO_3.out) hb); replace HO_5 := Aside0.mk (Kd.V_below (Kd.V_elderB (U HO_5.out) gb446 (Nat.le_of_eq hg.symm)) hb); replace HO_6 := Aside0.mk (Kd.N_below (Kd.N_elderB (U HO_6.out) gb446 (Nat.le_of_eq hg.symm)) hb); replace HO_10 := Aside0.mk (Kd.V_below (Kd.V_elderB (U HO_10.out) gb446 (Nat.le_of_eq hg.symm)) hb); replace HL440_0 := Aside0.mk (Kd.V_below (Kd.V_elderB (U HL440_0.out) gb446 (Nat.le_of_eq hg.symm)) hb); replace HO443 := Aside0.mk (Kd.N_below (Kd.N_elderB (U HO443.out) gb446 (Nat.le_of_eq hg.symm)) hb); replace HR440_0 := Aside0.mk (Kd.C_below (by repeat (first | (with_reducible exact HR440_0.out) | (with_reducible refine Kd.C_alloc ?_ _) | (with_reducible refine Kd.C_drewN ?_ _) | (with_reducible refine Kd.C_drew ?_) | exact HR440_0.out)) hb); have BK446 := Aside0.mk (hbox); have GW446 := GS w hg; have GE446 := GS w hg; replace HB := BS hb; clear hb hbox hg; obtain ⟨Ao47, co47, eo47⟩ := Kd.N_slice HO443.out; subst eo47; obtain ⟨hcz48_0, hcz48_1, hfz48_0, hfz48_1⟩ := bcf BK446))
                          go_roundg kj24
                          case measure => have := HJ5.out; have := HK2.out; have := HJ24.out; omega
                          case rel => exact ⟨(x10_2), (x11_2), (false), (wrap64 (x13_2 + 1)), sR, sR, sR, H', ⟨by have := HJ5.out; have := HK2.out; have := HJ24.out; omega⟩, ⟨Kd.QM (Kd.Q_far (p := ⟨gb446, 1, none⟩) (Kd.Q_far (p := ⟨gb446, 0, none⟩) (Kd.Q_types HO_3.out BK446.out (by decide)) (fun _ hk => hk.2) (.slice Ao47 t441.length co47)) (fun _ hk => hk.2) (.int .i64 t444)) (fun _ hk => trivial)⟩, ⟨Kd.VM (Kd.V_far (p := ⟨gb446, 1, none⟩) (Kd.V_far (p := ⟨gb446, 0, none⟩) (Kd.V_mono HO_5.out (fun k_ hk => (⟨hk, hk.2⟩ : _ ∧ k_ ≠ gb446))) (fun _ hk => hk.2) (.slice Ao47 t441.length co47)) (fun _ hk => hk.2) (.int .i64 t444)) (fun _ hk => ⟨hk.1.1.1.1, hk.1.1.1.2⟩)⟩, ⟨Kd.NM (Kd.N_far (p := ⟨gb446, 1, none⟩) (Kd.N_far (p := ⟨gb446, 0, none⟩) (Kd.N_mono HO_6.out (fun k_ hk => (⟨hk, hk.2⟩ : _ ∧ k_ ≠ gb446))) (fun _ hk => hk.2) (.slice Ao47 t441.length co47)) (fun _ hk => hk.2) (.int .i64 t444)) (fun _ hk => hk.1.1.1)⟩, ⟨Kd.VM (Kd.V_far (p := ⟨gb446, 1, none⟩) (Kd.V_far (p := ⟨gb446, 0, none⟩) (Kd.V_mono HO_10.out (fun k_ hk => (⟨hk, hk.2⟩ : _ ∧ k_ ≠ gb446))) (fun _ hk => hk.2) (.slice Ao47 t441.length co47)) (fun _ hk => hk.2) (.int .i64 t444)) (fun _ hk => ⟨hk.1.1.1.1, hk.1.1.1.2⟩)⟩, ⟨BU⟩⟩
                      · rw [if_neg c33] at H
                        exact absurd H (by simp)
                    · rw [if_neg c32] at H
                      exact absurd H (by simp)
                  · replace c31 := Bool.eq_false_iff.mpr c31
                    subst c31; replace H := ifF H; obtain ⟨⟨t452, t453⟩, A49, H⟩ := bnd H
                    replace H : (if x12_2 = true then (if t453 = true then (if x11_2 = 1 then ((laws_sameInts.f kj24 x10_2 t427).bind fun t454 => (if t454 = true then (if (t430.length : Int) ≤ 2 then ((laws_sizeOf.f t452).bind fun t455 => (if t455 < (t421.length : Int) then (some true) else (some (decide ((t430.length : Int) ≤ 1))))) else (none)) else (none))) else (none)) else (none)) else (if t453 = true then (some (decide ((t430.length : Int) > 0))) else (none))) = some r := H
                    by_cases c50 : x12_2 = true
                    · subst c50
                      replace H := ifT H
                      by_cases c51 : t453 = true
                      · subst c51
                        replace H := ifT H
                        by_cases c52 : x11_2 = 1
                        · rw [if_pos c52] at H
                          have c52b0 : (x11_2 == 1) = true := beq_iff_eq.mpr c52; have c52b1 : (x11_2 != 1) = false := bne_eq_false_iff_eq.mpr c52; clear c52; obtain ⟨t454, A53, H⟩ := bnd H
                          by_cases c54 : t454 = true
                          · subst c54
                            replace H := ifT H
                            by_cases c55 : (t430.length : Int) ≤ 2
                            · rw [if_pos c55] at H
                              have c55b0 : decide ((t430.length : Int) ≤ 2) = true := decide_eq_true c55; have c55b1 : decide (t430.length ≤ 2) = true := decide_eq_true (by omega); clear c55; obtain ⟨t455, A56, H⟩ := bnd H
                              by_cases c57 : t455 < (t421.length : Int)
                              · rw [if_pos c57] at H
                                have c57b0 : decide (t455 < (t421.length : Int)) = true := decide_eq_true c57; clear c57; obtain rfl := Option.some.inj H
                                go_wp2_with (first | ((with_reducible refine gate_callee (f := 31) rfl ?_); refine goesK (some 97) Try.func31 #[.slice Ao8 t421.length co8] ?_; (with_reducible refine (impl_FormSigns.calls kj24 _ _ t421 t452 true _ ?side1 ?side2 A49.out).mono ?_); (case side1 => exact U ((Kd.Q_reads' HO_3.out).2.2)); (case side2 => exact (Kd.Q_reads' HO_3.out).2.1); rintro e w58 ⟨rfl, hb⟩; refine ⟨_, rfl, ?_⟩; replace HO_3 := Aside0.mk (Kd.Q_below (U HO_3.out) hb); replace HO_5 := Aside0.mk (Kd.V_below (U HO_5.out) hb); replace HO_6 := Aside0.mk (Kd.N_below (U HO_6.out) hb); replace HO_10 := Aside0.mk (Kd.V_below (U HO_10.out) hb); replace HB := BS hb; (try clear hb); obtain ⟨Ao59, co59, eo59⟩ := Kd.V_slice HO_10.out; subst eo59) | (go_at_call 25; (with_reducible refine (laws_sameInts.calls kj24 _ _ x10_2 _ _ t427 true _ ?side1 ?side2 ?side3 ?side4 A53.out).mono ?_); (case side1 => exact U ((Kd.V_reads' HO_10.out).2.2)); (case side2 => exact (Kd.V_reads' HO_10.out).2.1); (case side3 => exact U ((Kd.V_reads' HO_5.out).2.2)); (case side4 => exact (Kd.V_reads' HO_5.out).2.1); rintro e w' ⟨rfl, ⟨nd, rfl⟩⟩; obtain ⟨Ao60, co60, eo60⟩ := Kd.N_slice HO_6.out; subst eo60) | (go_at_call 32; (with_reducible refine (laws_sizeOf.calls t452 t455 _ A56.out).mono ?_); rintro e w61 ⟨rfl, hb⟩; replace HO_3 := Aside0.mk (Kd.Q_below (U HO_3.out) hb); replace HO_5 := Aside0.mk (Kd.V_below (U HO_5.out) hb); replace HO_6 := Aside0.mk (Kd.N_below (U HO_6.out) hb); replace HO_10 := Aside0.mk (Kd.V_below (U HO_10.out) hb); replace HB := BS hb; (try clear hb)))
                                go_ret
                                exact ⟨eR, BU⟩
                              · rw [if_neg c57] at H
                                have c57b0 : decide (t455 < (t421.length : Int)) = false := decide_eq_false c57; clear c57; obtain rfl := Option.some.inj H
                                go_wp2_with (first | ((with_reducible refine gate_callee (f := 31) rfl ?_); refine goesK (some 97) Try.func31 #[.slice Ao8 t421.length co8] ?_; (with_reducible refine (impl_FormSigns.calls kj24 _ _ t421 t452 true _ ?side1 ?side2 A49.out).mono ?_); (case side1 => exact U ((Kd.Q_reads' HO_3.out).2.2)); (case side2 => exact (Kd.Q_reads' HO_3.out).2.1); rintro e w62 ⟨rfl, hb⟩; refine ⟨_, rfl, ?_⟩; replace HO_3 := Aside0.mk (Kd.Q_below (U HO_3.out) hb); replace HO_5 := Aside0.mk (Kd.V_below (U HO_5.out) hb); replace HO_6 := Aside0.mk (Kd.N_below (U HO_6.out) hb); replace HO_10 := Aside0.mk (Kd.V_below (U HO_10.out) hb); replace HB := BS hb; (try clear hb); obtain ⟨Ao63, co63, eo63⟩ := Kd.V_slice HO_10.out; subst eo63) | (go_at_call 25; (with_reducible refine (laws_sameInts.calls kj24 _ _ x10_2 _ _ t427 true _ ?side1 ?side2 ?side3 ?side4 A53.out).mono ?_); (case side1 => exact U ((Kd.V_reads' HO_10.out).2.2)); (case side2 => exact (Kd.V_reads' HO_10.out).2.1); (case side3 => exact U ((Kd.V_reads' HO_5.out).2.2)); (case side4 => exact (Kd.V_reads' HO_5.out).2.1); rintro e w' ⟨rfl, ⟨nd, rfl⟩⟩; obtain ⟨Ao64, co64, eo64⟩ := Kd.N_slice HO_6.out; subst eo64) | (go_at_call 32; (with_reducible refine (laws_sizeOf.calls t452 t455 _ A56.out).mono ?_); rintro e w65 ⟨rfl, hb⟩; replace HO_3 := Aside0.mk (Kd.Q_below (U HO_3.out) hb); replace HO_5 := Aside0.mk (Kd.V_below (U HO_5.out) hb); replace HO_6 := Aside0.mk (Kd.N_below (U HO_6.out) hb); replace HO_10 := Aside0.mk (Kd.V_below (U HO_10.out) hb); replace HB := BS hb; (try clear hb)))
                                go_ret
                                exact ⟨eR, BU⟩
                            · rw [if_neg c55] at H
                              exact absurd H (by simp)
                          · replace c54 := Bool.eq_false_iff.mpr c54
                            subst c54; replace H := ifF H
                            exact absurd H (by simp)
                        · rw [if_neg c52] at H
                          exact absurd H (by simp)
                      · replace c51 := Bool.eq_false_iff.mpr c51
                        subst c51; replace H := ifF H
                        exact absurd H (by simp)
                    · replace c50 := Bool.eq_false_iff.mpr c50
                      subst c50; replace H := ifF H
                      by_cases c66 : t453 = true
                      · subst c66
                        replace H := ifT H; obtain rfl := Option.some.inj H
                        go_wp2_with (first | ((with_reducible refine gate_callee (f := 31) rfl ?_); refine goesK (some 97) Try.func31 #[.slice Ao8 t421.length co8] ?_; (with_reducible refine (impl_FormSigns.calls kj24 _ _ t421 t452 true _ ?side1 ?side2 A49.out).mono ?_); (case side1 => exact U ((Kd.Q_reads' HO_3.out).2.2)); (case side2 => exact (Kd.Q_reads' HO_3.out).2.1); rintro e w67 ⟨rfl, hb⟩; refine ⟨_, rfl, ?_⟩; replace HO_3 := Aside0.mk (Kd.Q_below (U HO_3.out) hb); replace HO_5 := Aside0.mk (Kd.V_below (U HO_5.out) hb); replace HO_6 := Aside0.mk (Kd.N_below (U HO_6.out) hb); replace HO_10 := Aside0.mk (Kd.V_below (U HO_10.out) hb); replace HB := BS hb; (try clear hb); obtain ⟨Ao68, co68, eo68⟩ := Kd.N_slice HO_6.out; subst eo68))
                        go_ret
                        exact ⟨eR, BU⟩
                      · replace c66 := Bool.eq_false_iff.mpr c66
                        subst c66; replace H := ifF H
                        exact absurd H (by simp)

/-- THE ONE PURE STATEMENT of laws_FnCarry: yours. -/
def laws_FnCarry.Pure : Prop := ∀ (l0 : List Int), l0.length ≤ maxLen → l0.length * 1 ≤ 140737488351232 → (∀ x ∈ l0, (Lit.int .u8 x).wf = true) → ∃ k, laws_FnCarry.f k l0 = some true
theorem laws_FnCarry.walk (P : laws_FnCarry.Pure) (a0 : Option Addr) (len0 cap0 : Nat) (z0 : List Int) (w : World) (w0 : (a0 = none ∧ len0 = 0 ∧ cap0 = 0 ∧ z0 = []) ∨ ∃ x, a0 = some x ∧ len0 ≤ cap0 ∧ cap0 ≤ maxLen ∧ z0.length = cap0 ∧ (∀ i, i < z0.length → w.cell? (x.add i) = some (.int .u8 (z0.getD i 0))) ∧ ∀ n ∈ z0, (Lit.int .u8 n).wf = true) (y0 : len0 * 1 ≤ 140737488351232) :
    Calls Try.prog 5 #[.slice a0 len0 cap0] w fun e w' => e = .returned (.bool true) ∧ Below w.heap.size w w' := by
  obtain ⟨l0, rfl, hr0, hm0, hw0, hc0⟩ := ReadsInt.ofRowC w0
  obtain ⟨k, h⟩ := P l0 hm0 y0 hw0
  refine (laws_FnCarry.calls k _ _ l0 true w (Kd.C_of_reads (d := (0 : Int)) (h1 := fun _ => rfl) hr0) hc0 h).mono ?_
  rintro e w' ⟨rfl, hd⟩
  exact ⟨rfl, hd⟩

end Go.Proofs.Ytnbeeogmaamgdaa.PFnCarry
