-- Written by a program of this session (wip/print2.py): the functions that the law reaches, plain, and the walks.
import Derived.Test.YtpjgcjkodmkemaaPFnManyx0
import Derived.Test.YtpjgcjkodmkemaaPFnManyx4
import Derived.Test.YtpjgcjkodmkemaaPFnManyx7
import Derived.Test.YtpjgcjkodmkemaaPFnManyx8
import Derived.Test.YtpjgcjkodmkemaaPFnManyx9
import Derived.Test.YtpjgcjkodmkemaaPFnManyx13
namespace Go.Proofs.Ytpjgcjkodmkemaa.PFnMany
open Go.RowKit Go.Proofs.YtpjgcjkodmkemaaW.PrintWords Go.Proofs.YtpjgcjkodmkemaaW.PrintLast Go.Proofs.YtpjgcjkodmkemaaW.PrintMore
attribute [local go_sem] max2_int min2_int max_two min_two max_three min_three max_four min_four   -- for this text's walks alone
set_option linter.unusedVariables false
set_option linter.unusedSimpArgs false

/-! ### laws_FnMany: function 4 -/
def laws_FnMany.j0 : Nat → List Int → Int → Int → Int → Bool → Option (Bool)
  | 0, _, _, _, _, _ => none
  | k + 1, x3, x4, x5, x6, x30 => if x30 = true then (some (x5 == x6)) else ((impl_ZeroMany.f k x3 (wrap64 (x4 + 1))).bind fun t425 => ((impl_ZeroFind.f k x3).bind fun bt426 => (if x4 = 6 then ((impl_FormBad.f k x3).bind fun t430 => (if (t430.length : Int) = 0 then (if bt426.2 = true then ((impl_ZeroHeight.f k x3 bt426.1).bind fun t433 => (if t433 > x4 then (some true) else (some (decide (x5 ≥ 1))))) else (some true)) else (if x5 = 0 then (if bt426.2 = true then ((impl_ZeroHeight.f k x3 bt426.1).bind fun t434 => (if t434 > x4 then (some true) else (some (decide (x5 ≥ 1))))) else (some true)) else (none)))) else (if t425 ≥ x5 then ((impl_FormBad.f k x3).bind fun t435 => (if (t435.length : Int) = 0 then (if bt426.2 = true then ((impl_ZeroHeight.f k x3 bt426.1).bind fun t438 => (if t438 > x4 then (some true) else (some (decide (x5 ≥ 1))))) else (some true)) else (if x5 = 0 then (if bt426.2 = true then ((impl_ZeroHeight.f k x3 bt426.1).bind fun t439 => (if t439 > x4 then (some true) else (some (decide (x5 ≥ 1))))) else (some true)) else (none)))) else (none)))))
def laws_FnMany.f (k : Nat) (l0 : List Int) : Option (Bool) := if (l0.length : Int) > 1048576 then (some true) else ((spec_DrawZeroMany.f k l0).bind fun bt419 => ((impl_ZeroMany.f k bt419.1 bt419.2).bind fun t423 => ((spec_ZeroMany.f k bt419.1 bt419.2).bind fun t424 => (if t423 = t424 then (laws_FnMany.j0 k bt419.1 bt419.2 t423 t424 (decide (t423 < 0))) else (laws_FnMany.j0 k bt419.1 bt419.2 t423 t424 true)))))
theorem laws_FnMany.mono_l : ∀ k, (∀ y0 y1 y2 y3 y4, LeO (laws_FnMany.j0 k y0 y1 y2 y3 y4) (laws_FnMany.j0 (k + 1) y0 y1 y2 y3 y4))
  | 0 => fun _ _ _ _ _ r h => by simp [laws_FnMany.j0] at h
  | k + 1 => by
    have ih0 := laws_FnMany.mono_l k
    · intro y0 y1 y2 y3 y4
      unfold laws_FnMany.j0
      repeat' first
      | (with_reducible exact ih0 _ _ _ _ _)
      | (with_reducible exact impl_FormBad.mono _ _)
      | (with_reducible exact impl_ZeroFind.mono _ _)
      | (with_reducible exact impl_ZeroHeight.mono _ _ _)
      | (with_reducible exact impl_ZeroMany.mono _ _ _)
      | (with_reducible exact spec_DrawZeroMany.mono _ _)
      | (with_reducible exact spec_ZeroMany.mono _ _ _)
      | (with_reducible exact LeO.refl _)
      | (with_reducible exact LeO.none _)
      | (with_reducible refine LeO.ite ?_ ?_)
      | (with_reducible refine LeO.bind ?_ (fun _ => ?_))
      | exact ih0 _ _ _ _ _
      | exact impl_FormBad.mono _ _
      | exact impl_ZeroFind.mono _ _
      | exact impl_ZeroHeight.mono _ _ _
      | exact impl_ZeroMany.mono _ _ _
      | exact spec_DrawZeroMany.mono _ _
      | exact spec_ZeroMany.mono _ _ _
      | exact LeO.none _
      | refine LeO.ite ?_ ?_
      | refine LeO.bind ?_ (fun _ => ?_)
theorem laws_FnMany.mono : ∀ a0 k, LeO (laws_FnMany.f k a0) (laws_FnMany.f (k + 1) a0) := by
  intro a0 k
  have ih0 := laws_FnMany.mono_l k
  unfold laws_FnMany.f
  repeat' first
      | (with_reducible exact ih0 _ _ _ _ _)
      | (with_reducible exact impl_FormBad.mono _ _)
      | (with_reducible exact impl_ZeroFind.mono _ _)
      | (with_reducible exact impl_ZeroHeight.mono _ _ _)
      | (with_reducible exact impl_ZeroMany.mono _ _ _)
      | (with_reducible exact spec_DrawZeroMany.mono _ _)
      | (with_reducible exact spec_ZeroMany.mono _ _ _)
      | (with_reducible exact LeO.refl _)
      | (with_reducible exact LeO.none _)
      | (with_reducible refine LeO.ite ?_ ?_)
      | (with_reducible refine LeO.bind ?_ (fun _ => ?_))
      | exact ih0 _ _ _ _ _
      | exact impl_FormBad.mono _ _
      | exact impl_ZeroFind.mono _ _
      | exact impl_ZeroHeight.mono _ _ _
      | exact impl_ZeroMany.mono _ _ _
      | exact spec_DrawZeroMany.mono _ _
      | exact spec_ZeroMany.mono _ _ _
      | exact LeO.none _
      | refine LeO.ite ?_ ?_
      | refine LeO.bind ?_ (fun _ => ?_)
set_option maxHeartbeats 8000000 in
set_option maxRecDepth 100000 in
theorem laws_FnMany.calls (k : Nat) (A0 : Option Addr) (c0 : Nat) (l0 : List Int) (r : Bool) (w : World) (hr0 : Kd.C (Kd.int .u8) w A0 l0.length l0) (hc0 : l0.length ≤ c0) (h : laws_FnMany.f k l0 = some r) :
    Calls Try.prog 4 #[.slice A0 l0.length c0] w fun e w' => e = .returned (.bool r) ∧ Below w.heap.size w w' := by
  have HR0 := Aside0.mk hr0; have HC0 := Aside0.mk hc0; clear hr0 hc0; have HB := Aside0.mk (Below.refl w.heap.size w); unfold laws_FnMany.f at h; have H := h; clear h
  by_cases c2 : (l0.length : Int) > 1048576
  · rw [if_pos c2] at H
    have c2b0 : decide (1048576 < (l0.length : Int)) = true := decide_eq_true c2; have c2b1 : decide (1048576 < l0.length) = true := decide_eq_true (by omega); clear c2; obtain rfl := Option.some.inj H; go_enter Try.func4, Try.ntmps4
    go_wp2
    go_ret
    exact ⟨eR, BU⟩
  · rw [if_neg c2] at H
    have c2b0 : decide (1048576 < (l0.length : Int)) = false := decide_eq_false c2; have c2b1 : decide (1048576 < l0.length) = false := decide_eq_false (by omega); clear c2; obtain ⟨⟨t419, t420⟩, A3, H⟩ := bnd H
    replace H : ((impl_ZeroMany.f k t419 t420).bind fun t423 => ((spec_ZeroMany.f k t419 t420).bind fun t424 => (if t423 = t424 then (laws_FnMany.j0 k t419 t420 t423 t424 (decide (t423 < 0))) else (laws_FnMany.j0 k t419 t420 t423 t424 true)))) = some r := H
    obtain ⟨t423, A4, H⟩ := bnd H; obtain ⟨t424, A5, H⟩ := bnd H; have HC6 := Aside0.mk H; clear H; go_enter Try.func4, Try.ntmps4
    go_upto_region 6 with (first | ((with_reducible refine gate_callee (f := 12) rfl ?_); refine goesK (some 15) Try.func12 #[.slice A0 l0.length c0] ?_; (with_reducible refine (spec_DrawZeroMany.calls k _ _ l0 t419 t420 _ ?side1 ?side2 A3.out).mono ?_); (case side1 => exact U HR0.out); (case side2 => exact HC0.out); rintro e w7 ⟨v421, rfl, ho0, hb⟩; refine ⟨_, rfl, ?_⟩; have HO422 := Aside0.mk (Kd.R_lower ho0 (below_size BU)); replace HB := BS hb; (try clear hb); (try clear ho0); obtain ⟨Ao8, co8, eo8⟩ := Kd.R_slice HO422.out; subst eo8) | ((with_reducible refine gate_callee (f := 13) rfl ?_); refine goesK (some 20) Try.func13 #[.slice Ao8 t419.length co8, .int .i64 t420] ?_; (with_reducible refine (impl_ZeroMany.calls k _ _ t419 t420 t423 _ ?side1 ?side2 A4.out).mono ?_); (case side1 => exact U ((Kd.R_reads' HO422.out).2.2)); (case side2 => exact (Kd.R_reads' HO422.out).2.1); rintro e w9 ⟨rfl, hb⟩; refine ⟨_, rfl, ?_⟩; replace HO422 := Aside0.mk (Kd.R_below (U HO422.out) hb); replace HB := BS hb; (try clear hb)) | ((with_reducible refine gate_callee (f := 14) rfl ?_); refine goesK (some 23) Try.func14 #[.slice Ao8 t419.length co8, .int .i64 t420] ?_; (with_reducible refine (spec_ZeroMany.calls k _ _ t419 t420 t424 _ ?side1 ?side2 A5.out).mono ?_); (case side1 => exact U ((Kd.R_reads' HO422.out).2.2)); (case side2 => exact (Kd.R_reads' HO422.out).2.1); rintro e w10 ⟨rfl, hb⟩; refine ⟨_, rfl, ?_⟩; replace HO422 := Aside0.mk (Kd.R_below (U HO422.out) hb); replace HB := BS hb; (try clear hb)))
    (try simp only [Act.put, List.setIfInBounds_toArray, List.set_cons_zero, List.set_cons_succ])
    go_cut [30] (fun v30 wc => ∃ (kq : Nat) (x30_5 : Bool), v30 = .bool x30_5 ∧ Aside0 (laws_FnMany.j0 kq t419 t420 t423 t424 x30_5 = some r) ∧ Aside0 (kq ≤ k) ∧ Aside0 (Kd.R (Kd.int .i64) 3 wc w.heap.size (fun _ => True) (.slice Ao8 t419.length co8) t419) ∧ Aside0 (Below w.heap.size w wc))
    case first =>
      have H := HC6.out; clear HC6
      by_cases c11 : t423 = t424
      · rw [if_pos c11] at H
        have c11b0 : (t423 == t424) = true := beq_iff_eq.mpr c11; have c11b1 : (t423 != t424) = false := bne_eq_false_iff_eq.mpr c11; clear c11
        (first | rw [c11b0] | (simp only [i64_w, i32_w]; rw [c11b0]) | skip)
        have H' := Aside0.mk H; clear H
        go_wp2
        go_meet
        case rel => exact ⟨_, (decide (t423 < 0)), sR, H', ⟨oR⟩, ⟨U HO422.out⟩, ⟨BU⟩⟩
      · rw [if_neg c11] at H
        have c11b0 : (t423 == t424) = false := beq_eq_false_iff_ne.mpr c11; have c11b1 : (t423 != t424) = true := bne_iff_ne.mpr c11
        (first | rw [c11b0] | (simp only [i64_w, i32_w]; rw [c11b0]) | skip)
        have H' := Aside0.mk H; clear H
        go_wp2
        go_meet
        case rel => exact ⟨_, (true), sR, H', ⟨oR⟩, ⟨U HO422.out⟩, ⟨BU⟩⟩
    case rest =>
      clear HC6; (try clear c2); (try clear c2b0); (try clear c2b1); obtain ⟨kq, x30_5, rfl, HA, HJ5, HO_3, HB⟩ := hcut; cases kq with
      | zero => exact absurd HA.out (by simp [laws_FnMany.j0])
      | succ kj5 =>
        have H := HA.out; clear HA; simp only [laws_FnMany.j0] at H
        by_cases c12 : x30_5 = true
        · subst c12
          replace H := ifT H; obtain rfl := Option.some.inj H
          go_wp2
          go_ret
          exact ⟨eR, BU⟩
        · replace c12 := Bool.eq_false_iff.mpr c12
          subst c12; replace H := ifF H; obtain ⟨t425, A13, H⟩ := bnd H; obtain ⟨⟨t426, t427⟩, A14, H⟩ := bnd H
          replace H : (if t420 = 6 then ((impl_FormBad.f kj5 t419).bind fun t430 => (if (t430.length : Int) = 0 then (if t427 = true then ((impl_ZeroHeight.f kj5 t419 t426).bind fun t433 => (if t433 > t420 then (some true) else (some (decide (t423 ≥ 1))))) else (some true)) else (if t423 = 0 then (if t427 = true then ((impl_ZeroHeight.f kj5 t419 t426).bind fun t434 => (if t434 > t420 then (some true) else (some (decide (t423 ≥ 1))))) else (some true)) else (none)))) else (if t425 ≥ t423 then ((impl_FormBad.f kj5 t419).bind fun t435 => (if (t435.length : Int) = 0 then (if t427 = true then ((impl_ZeroHeight.f kj5 t419 t426).bind fun t438 => (if t438 > t420 then (some true) else (some (decide (t423 ≥ 1))))) else (some true)) else (if t423 = 0 then (if t427 = true then ((impl_ZeroHeight.f kj5 t419 t426).bind fun t439 => (if t439 > t420 then (some true) else (some (decide (t423 ≥ 1))))) else (some true)) else (none)))) else (none))) = some r := H
          by_cases c15 : t420 = 6
          · rw [if_pos c15] at H
            have c15b0 : (t420 == 6) = true := beq_iff_eq.mpr c15; have c15b1 : (t420 != 6) = false := bne_eq_false_iff_eq.mpr c15; clear c15; obtain ⟨t430, A16, H⟩ := bnd H
            by_cases c17 : (t430.length : Int) = 0
            · rw [if_pos c17] at H
              have c17b0 : ((t430.length : Int) == 0) = true := beq_iff_eq.mpr c17; have c17b1 : ((t430.length : Int) != 0) = false := bne_eq_false_iff_eq.mpr c17; clear c17
              by_cases c18 : t427 = true
              · subst c18
                replace H := ifT H; obtain ⟨t433, A19, H⟩ := bnd H
                by_cases c20 : t433 > t420
                · rw [if_pos c20] at H
                  have c20b0 : decide (t420 < t433) = true := decide_eq_true c20; clear c20; obtain rfl := Option.some.inj H
                  go_wp2_with (first | ((with_reducible refine gate_callee (f := 13) rfl ?_); refine goesK (some 37) Try.func13 #[.slice Ao8 t419.length co8, .int .i64 (wrap64 (t420 + 1))] ?_; (with_reducible refine (impl_ZeroMany.calls kj5 _ _ t419 (wrap64 (t420 + 1)) t425 _ ?side1 ?side2 A13.out).mono ?_); (case side1 => exact U ((Kd.R_reads' HO_3.out).2.2)); (case side2 => exact (Kd.R_reads' HO_3.out).2.1); rintro e w21 ⟨rfl, hb⟩; refine ⟨_, rfl, ?_⟩; replace HO_3 := Aside0.mk (Kd.R_below (U HO_3.out) hb); replace HB := BS hb; (try clear hb)) | ((with_reducible refine gate_callee (f := 15) rfl ?_); refine goesK (some 40) Try.func15 #[.slice Ao8 t419.length co8] ?_; (with_reducible refine (impl_ZeroFind.calls kj5 _ _ t419 t426 true _ ?side1 ?side2 A14.out).mono ?_); (case side1 => exact U ((Kd.R_reads' HO_3.out).2.2)); (case side2 => exact (Kd.R_reads' HO_3.out).2.1); rintro e w22 ⟨v428, rfl, ho0, hb⟩; refine ⟨_, rfl, ?_⟩; have HO429 := Aside0.mk (Kd.R_lower (Kd.R_new' ho0 (Kd.R_lt (U HO_3.out))) (below_size BU)); replace HO_3 := Aside0.mk (Kd.R_elder' (U HO_3.out) (Kd.R_base ho0) hb); replace HB := BS hb; (try clear hb); (try clear ho0)) | (go_at_call 9; (with_reducible refine (impl_FormBad.calls kj5 _ _ t419 t430 _ ?side1 ?side2 A16.out).mono ?_); (case side1 => exact U ((Kd.R_reads' HO_3.out).2.2)); (case side2 => exact (Kd.R_reads' HO_3.out).2.1); rintro e w23 ⟨v431, rfl, ho0, hb⟩; have HO432 := Aside0.mk (Kd.R_lower (Kd.R_new' (Kd.R_new' ho0 (Kd.R_lt (U HO_3.out))) (Kd.R_lt (U HO429.out))) (below_size BU)); replace HO_3 := Aside0.mk (Kd.R_elder' (U HO_3.out) (Kd.R_base ho0) hb); replace HO429 := Aside0.mk (Kd.R_elder' (U HO429.out) (Kd.R_base ho0) hb); replace HB := BS hb; (try clear hb); (try clear ho0); obtain ⟨Ao24, co24, eo24⟩ := Kd.R_slice HO432.out; subst eo24; obtain ⟨Ao25, co25, eo25⟩ := Kd.R_slice HO429.out; subst eo25) | (go_at_call 16; (with_reducible refine (impl_ZeroHeight.calls kj5 _ _ t419 _ _ t426 t433 _ ?side1 ?side2 ?side3 ?side4 A19.out).mono ?_); (case side1 => exact U ((Kd.R_reads' HO_3.out).2.2)); (case side2 => exact (Kd.R_reads' HO_3.out).2.1); (case side3 => exact U ((Kd.R_reads' HO429.out).2.2)); (case side4 => exact (Kd.R_reads' HO429.out).2.1); rintro e w26 ⟨rfl, hb⟩; replace HO_3 := Aside0.mk (Kd.R_below (U HO_3.out) hb); replace HO429 := Aside0.mk (Kd.R_below (U HO429.out) hb); replace HO432 := Aside0.mk (Kd.R_below (U HO432.out) hb); replace HB := BS hb; (try clear hb)))
                  go_ret
                  exact ⟨eR, BU⟩
                · rw [if_neg c20] at H
                  have c20b0 : decide (t420 < t433) = false := decide_eq_false c20; clear c20; obtain rfl := Option.some.inj H
                  go_wp2_with (first | ((with_reducible refine gate_callee (f := 13) rfl ?_); refine goesK (some 37) Try.func13 #[.slice Ao8 t419.length co8, .int .i64 (wrap64 (t420 + 1))] ?_; (with_reducible refine (impl_ZeroMany.calls kj5 _ _ t419 (wrap64 (t420 + 1)) t425 _ ?side1 ?side2 A13.out).mono ?_); (case side1 => exact U ((Kd.R_reads' HO_3.out).2.2)); (case side2 => exact (Kd.R_reads' HO_3.out).2.1); rintro e w27 ⟨rfl, hb⟩; refine ⟨_, rfl, ?_⟩; replace HO_3 := Aside0.mk (Kd.R_below (U HO_3.out) hb); replace HB := BS hb; (try clear hb)) | ((with_reducible refine gate_callee (f := 15) rfl ?_); refine goesK (some 40) Try.func15 #[.slice Ao8 t419.length co8] ?_; (with_reducible refine (impl_ZeroFind.calls kj5 _ _ t419 t426 true _ ?side1 ?side2 A14.out).mono ?_); (case side1 => exact U ((Kd.R_reads' HO_3.out).2.2)); (case side2 => exact (Kd.R_reads' HO_3.out).2.1); rintro e w28 ⟨v428, rfl, ho0, hb⟩; refine ⟨_, rfl, ?_⟩; have HO429 := Aside0.mk (Kd.R_lower (Kd.R_new' ho0 (Kd.R_lt (U HO_3.out))) (below_size BU)); replace HO_3 := Aside0.mk (Kd.R_elder' (U HO_3.out) (Kd.R_base ho0) hb); replace HB := BS hb; (try clear hb); (try clear ho0)) | (go_at_call 9; (with_reducible refine (impl_FormBad.calls kj5 _ _ t419 t430 _ ?side1 ?side2 A16.out).mono ?_); (case side1 => exact U ((Kd.R_reads' HO_3.out).2.2)); (case side2 => exact (Kd.R_reads' HO_3.out).2.1); rintro e w29 ⟨v431, rfl, ho0, hb⟩; have HO432 := Aside0.mk (Kd.R_lower (Kd.R_new' (Kd.R_new' ho0 (Kd.R_lt (U HO_3.out))) (Kd.R_lt (U HO429.out))) (below_size BU)); replace HO_3 := Aside0.mk (Kd.R_elder' (U HO_3.out) (Kd.R_base ho0) hb); replace HO429 := Aside0.mk (Kd.R_elder' (U HO429.out) (Kd.R_base ho0) hb); replace HB := BS hb; (try clear hb); (try clear ho0); obtain ⟨Ao30, co30, eo30⟩ := Kd.R_slice HO432.out; subst eo30; obtain ⟨Ao31, co31, eo31⟩ := Kd.R_slice HO429.out; subst eo31) | (go_at_call 16; (with_reducible refine (impl_ZeroHeight.calls kj5 _ _ t419 _ _ t426 t433 _ ?side1 ?side2 ?side3 ?side4 A19.out).mono ?_); (case side1 => exact U ((Kd.R_reads' HO_3.out).2.2)); (case side2 => exact (Kd.R_reads' HO_3.out).2.1); (case side3 => exact U ((Kd.R_reads' HO429.out).2.2)); (case side4 => exact (Kd.R_reads' HO429.out).2.1); rintro e w32 ⟨rfl, hb⟩; replace HO_3 := Aside0.mk (Kd.R_below (U HO_3.out) hb); replace HO429 := Aside0.mk (Kd.R_below (U HO429.out) hb); replace HO432 := Aside0.mk (Kd.R_below (U HO432.out) hb); replace HB := BS hb; (try clear hb)))
                  go_ret
                  exact ⟨eR, BU⟩
              · replace c18 := Bool.eq_false_iff.mpr c18
                subst c18; replace H := ifF H; obtain rfl := Option.some.inj H
                go_wp2_with (first | ((with_reducible refine gate_callee (f := 13) rfl ?_); refine goesK (some 37) Try.func13 #[.slice Ao8 t419.length co8, .int .i64 (wrap64 (t420 + 1))] ?_; (with_reducible refine (impl_ZeroMany.calls kj5 _ _ t419 (wrap64 (t420 + 1)) t425 _ ?side1 ?side2 A13.out).mono ?_); (case side1 => exact U ((Kd.R_reads' HO_3.out).2.2)); (case side2 => exact (Kd.R_reads' HO_3.out).2.1); rintro e w33 ⟨rfl, hb⟩; refine ⟨_, rfl, ?_⟩; replace HO_3 := Aside0.mk (Kd.R_below (U HO_3.out) hb); replace HB := BS hb; (try clear hb)) | ((with_reducible refine gate_callee (f := 15) rfl ?_); refine goesK (some 40) Try.func15 #[.slice Ao8 t419.length co8] ?_; (with_reducible refine (impl_ZeroFind.calls kj5 _ _ t419 t426 false _ ?side1 ?side2 A14.out).mono ?_); (case side1 => exact U ((Kd.R_reads' HO_3.out).2.2)); (case side2 => exact (Kd.R_reads' HO_3.out).2.1); rintro e w34 ⟨v428, rfl, ho0, hb⟩; refine ⟨_, rfl, ?_⟩; have HO429 := Aside0.mk (Kd.R_lower (Kd.R_new' ho0 (Kd.R_lt (U HO_3.out))) (below_size BU)); replace HO_3 := Aside0.mk (Kd.R_elder' (U HO_3.out) (Kd.R_base ho0) hb); replace HB := BS hb; (try clear hb); (try clear ho0)) | (go_at_call 9; (with_reducible refine (impl_FormBad.calls kj5 _ _ t419 t430 _ ?side1 ?side2 A16.out).mono ?_); (case side1 => exact U ((Kd.R_reads' HO_3.out).2.2)); (case side2 => exact (Kd.R_reads' HO_3.out).2.1); rintro e w35 ⟨v431, rfl, ho0, hb⟩; have HO432 := Aside0.mk (Kd.R_lower (Kd.R_new' (Kd.R_new' ho0 (Kd.R_lt (U HO_3.out))) (Kd.R_lt (U HO429.out))) (below_size BU)); replace HO_3 := Aside0.mk (Kd.R_elder' (U HO_3.out) (Kd.R_base ho0) hb); replace HO429 := Aside0.mk (Kd.R_elder' (U HO429.out) (Kd.R_base ho0) hb); replace HB := BS hb; (try clear hb); (try clear ho0); obtain ⟨Ao36, co36, eo36⟩ := Kd.R_slice HO432.out; subst eo36))
                go_ret
                exact ⟨eR, BU⟩
            · rw [if_neg c17] at H
              have c17b0 : ((t430.length : Int) == 0) = false := beq_eq_false_iff_ne.mpr c17; have c17b1 : ((t430.length : Int) != 0) = true := bne_iff_ne.mpr c17
              have c17b2 : ¬ (t430 = []) := fun h_ => c17 (by rw [h_]; rfl)
              by_cases c37 : t423 = 0
              · rw [if_pos c37] at H
                have c37b0 : (t423 == 0) = true := beq_iff_eq.mpr c37; have c37b1 : (t423 != 0) = false := bne_eq_false_iff_eq.mpr c37; clear c37
                by_cases c38 : t427 = true
                · subst c38
                  replace H := ifT H; obtain ⟨t434, A39, H⟩ := bnd H
                  by_cases c40 : t434 > t420
                  · rw [if_pos c40] at H
                    have c40b0 : decide (t420 < t434) = true := decide_eq_true c40; clear c40; obtain rfl := Option.some.inj H
                    go_wp2_with (first | ((with_reducible refine gate_callee (f := 13) rfl ?_); refine goesK (some 37) Try.func13 #[.slice Ao8 t419.length co8, .int .i64 (wrap64 (t420 + 1))] ?_; (with_reducible refine (impl_ZeroMany.calls kj5 _ _ t419 (wrap64 (t420 + 1)) t425 _ ?side1 ?side2 A13.out).mono ?_); (case side1 => exact U ((Kd.R_reads' HO_3.out).2.2)); (case side2 => exact (Kd.R_reads' HO_3.out).2.1); rintro e w41 ⟨rfl, hb⟩; refine ⟨_, rfl, ?_⟩; replace HO_3 := Aside0.mk (Kd.R_below (U HO_3.out) hb); replace HB := BS hb; (try clear hb)) | ((with_reducible refine gate_callee (f := 15) rfl ?_); refine goesK (some 40) Try.func15 #[.slice Ao8 t419.length co8] ?_; (with_reducible refine (impl_ZeroFind.calls kj5 _ _ t419 t426 true _ ?side1 ?side2 A14.out).mono ?_); (case side1 => exact U ((Kd.R_reads' HO_3.out).2.2)); (case side2 => exact (Kd.R_reads' HO_3.out).2.1); rintro e w42 ⟨v428, rfl, ho0, hb⟩; refine ⟨_, rfl, ?_⟩; have HO429 := Aside0.mk (Kd.R_lower (Kd.R_new' ho0 (Kd.R_lt (U HO_3.out))) (below_size BU)); replace HO_3 := Aside0.mk (Kd.R_elder' (U HO_3.out) (Kd.R_base ho0) hb); replace HB := BS hb; (try clear hb); (try clear ho0)) | (go_at_call 9; (with_reducible refine (impl_FormBad.calls kj5 _ _ t419 t430 _ ?side1 ?side2 A16.out).mono ?_); (case side1 => exact U ((Kd.R_reads' HO_3.out).2.2)); (case side2 => exact (Kd.R_reads' HO_3.out).2.1); rintro e w43 ⟨v431, rfl, ho0, hb⟩; have HO432 := Aside0.mk (Kd.R_lower (Kd.R_new' (Kd.R_new' ho0 (Kd.R_lt (U HO_3.out))) (Kd.R_lt (U HO429.out))) (below_size BU)); replace HO_3 := Aside0.mk (Kd.R_elder' (U HO_3.out) (Kd.R_base ho0) hb); replace HO429 := Aside0.mk (Kd.R_elder' (U HO429.out) (Kd.R_base ho0) hb); replace HB := BS hb; (try clear hb); (try clear ho0); obtain ⟨Ao44, co44, eo44⟩ := Kd.R_slice HO432.out; subst eo44; obtain ⟨Ao45, co45, eo45⟩ := Kd.R_slice HO429.out; subst eo45) | (go_at_call 16; (with_reducible refine (impl_ZeroHeight.calls kj5 _ _ t419 _ _ t426 t434 _ ?side1 ?side2 ?side3 ?side4 A39.out).mono ?_); (case side1 => exact U ((Kd.R_reads' HO_3.out).2.2)); (case side2 => exact (Kd.R_reads' HO_3.out).2.1); (case side3 => exact U ((Kd.R_reads' HO429.out).2.2)); (case side4 => exact (Kd.R_reads' HO429.out).2.1); rintro e w46 ⟨rfl, hb⟩; replace HO_3 := Aside0.mk (Kd.R_below (U HO_3.out) hb); replace HO429 := Aside0.mk (Kd.R_below (U HO429.out) hb); replace HO432 := Aside0.mk (Kd.R_below (U HO432.out) hb); replace HB := BS hb; (try clear hb)))
                    go_ret
                    exact ⟨eR, BU⟩
                  · rw [if_neg c40] at H
                    have c40b0 : decide (t420 < t434) = false := decide_eq_false c40; clear c40; obtain rfl := Option.some.inj H
                    go_wp2_with (first | ((with_reducible refine gate_callee (f := 13) rfl ?_); refine goesK (some 37) Try.func13 #[.slice Ao8 t419.length co8, .int .i64 (wrap64 (t420 + 1))] ?_; (with_reducible refine (impl_ZeroMany.calls kj5 _ _ t419 (wrap64 (t420 + 1)) t425 _ ?side1 ?side2 A13.out).mono ?_); (case side1 => exact U ((Kd.R_reads' HO_3.out).2.2)); (case side2 => exact (Kd.R_reads' HO_3.out).2.1); rintro e w47 ⟨rfl, hb⟩; refine ⟨_, rfl, ?_⟩; replace HO_3 := Aside0.mk (Kd.R_below (U HO_3.out) hb); replace HB := BS hb; (try clear hb)) | ((with_reducible refine gate_callee (f := 15) rfl ?_); refine goesK (some 40) Try.func15 #[.slice Ao8 t419.length co8] ?_; (with_reducible refine (impl_ZeroFind.calls kj5 _ _ t419 t426 true _ ?side1 ?side2 A14.out).mono ?_); (case side1 => exact U ((Kd.R_reads' HO_3.out).2.2)); (case side2 => exact (Kd.R_reads' HO_3.out).2.1); rintro e w48 ⟨v428, rfl, ho0, hb⟩; refine ⟨_, rfl, ?_⟩; have HO429 := Aside0.mk (Kd.R_lower (Kd.R_new' ho0 (Kd.R_lt (U HO_3.out))) (below_size BU)); replace HO_3 := Aside0.mk (Kd.R_elder' (U HO_3.out) (Kd.R_base ho0) hb); replace HB := BS hb; (try clear hb); (try clear ho0)) | (go_at_call 9; (with_reducible refine (impl_FormBad.calls kj5 _ _ t419 t430 _ ?side1 ?side2 A16.out).mono ?_); (case side1 => exact U ((Kd.R_reads' HO_3.out).2.2)); (case side2 => exact (Kd.R_reads' HO_3.out).2.1); rintro e w49 ⟨v431, rfl, ho0, hb⟩; have HO432 := Aside0.mk (Kd.R_lower (Kd.R_new' (Kd.R_new' ho0 (Kd.R_lt (U HO_3.out))) (Kd.R_lt (U HO429.out))) (below_size BU)); replace HO_3 := Aside0.mk (Kd.R_elder' (U HO_3.out) (Kd.R_base ho0) hb); replace HO429 := Aside0.mk (Kd.R_elder' (U HO429.out) (Kd.R_base ho0) hb); replace HB := BS hb; (try clear hb); (try clear ho0); obtain ⟨Ao50, co50, eo50⟩ := Kd.R_slice HO432.out; subst eo50; obtain ⟨Ao51, co51, eo51⟩ := Kd.R_slice HO429.out; subst eo51) | (go_at_call 16; (with_reducible refine (impl_ZeroHeight.calls kj5 _ _ t419 _ _ t426 t434 _ ?side1 ?side2 ?side3 ?side4 A39.out).mono ?_); (case side1 => exact U ((Kd.R_reads' HO_3.out).2.2)); (case side2 => exact (Kd.R_reads' HO_3.out).2.1); (case side3 => exact U ((Kd.R_reads' HO429.out).2.2)); (case side4 => exact (Kd.R_reads' HO429.out).2.1); rintro e w52 ⟨rfl, hb⟩; replace HO_3 := Aside0.mk (Kd.R_below (U HO_3.out) hb); replace HO429 := Aside0.mk (Kd.R_below (U HO429.out) hb); replace HO432 := Aside0.mk (Kd.R_below (U HO432.out) hb); replace HB := BS hb; (try clear hb)))
                    go_ret
                    exact ⟨eR, BU⟩
                · replace c38 := Bool.eq_false_iff.mpr c38
                  subst c38; replace H := ifF H; obtain rfl := Option.some.inj H
                  go_wp2_with (first | ((with_reducible refine gate_callee (f := 13) rfl ?_); refine goesK (some 37) Try.func13 #[.slice Ao8 t419.length co8, .int .i64 (wrap64 (t420 + 1))] ?_; (with_reducible refine (impl_ZeroMany.calls kj5 _ _ t419 (wrap64 (t420 + 1)) t425 _ ?side1 ?side2 A13.out).mono ?_); (case side1 => exact U ((Kd.R_reads' HO_3.out).2.2)); (case side2 => exact (Kd.R_reads' HO_3.out).2.1); rintro e w53 ⟨rfl, hb⟩; refine ⟨_, rfl, ?_⟩; replace HO_3 := Aside0.mk (Kd.R_below (U HO_3.out) hb); replace HB := BS hb; (try clear hb)) | ((with_reducible refine gate_callee (f := 15) rfl ?_); refine goesK (some 40) Try.func15 #[.slice Ao8 t419.length co8] ?_; (with_reducible refine (impl_ZeroFind.calls kj5 _ _ t419 t426 false _ ?side1 ?side2 A14.out).mono ?_); (case side1 => exact U ((Kd.R_reads' HO_3.out).2.2)); (case side2 => exact (Kd.R_reads' HO_3.out).2.1); rintro e w54 ⟨v428, rfl, ho0, hb⟩; refine ⟨_, rfl, ?_⟩; have HO429 := Aside0.mk (Kd.R_lower (Kd.R_new' ho0 (Kd.R_lt (U HO_3.out))) (below_size BU)); replace HO_3 := Aside0.mk (Kd.R_elder' (U HO_3.out) (Kd.R_base ho0) hb); replace HB := BS hb; (try clear hb); (try clear ho0)) | (go_at_call 9; (with_reducible refine (impl_FormBad.calls kj5 _ _ t419 t430 _ ?side1 ?side2 A16.out).mono ?_); (case side1 => exact U ((Kd.R_reads' HO_3.out).2.2)); (case side2 => exact (Kd.R_reads' HO_3.out).2.1); rintro e w55 ⟨v431, rfl, ho0, hb⟩; have HO432 := Aside0.mk (Kd.R_lower (Kd.R_new' (Kd.R_new' ho0 (Kd.R_lt (U HO_3.out))) (Kd.R_lt (U HO429.out))) (below_size BU)); replace HO_3 := Aside0.mk (Kd.R_elder' (U HO_3.out) (Kd.R_base ho0) hb); replace HO429 := Aside0.mk (Kd.R_elder' (U HO429.out) (Kd.R_base ho0) hb); replace HB := BS hb; (try clear hb); (try clear ho0); obtain ⟨Ao56, co56, eo56⟩ := Kd.R_slice HO432.out; subst eo56))
                  go_ret
                  exact ⟨eR, BU⟩
              · rw [if_neg c37] at H
                exact absurd H (by simp)
          · rw [if_neg c15] at H
            have c15b0 : (t420 == 6) = false := beq_eq_false_iff_ne.mpr c15; have c15b1 : (t420 != 6) = true := bne_iff_ne.mpr c15
            by_cases c57 : t425 ≥ t423
            · rw [if_pos c57] at H
              have c57b0 : decide (t423 ≤ t425) = true := decide_eq_true c57; clear c57; obtain ⟨t435, A58, H⟩ := bnd H
              by_cases c59 : (t435.length : Int) = 0
              · rw [if_pos c59] at H
                have c59b0 : ((t435.length : Int) == 0) = true := beq_iff_eq.mpr c59; have c59b1 : ((t435.length : Int) != 0) = false := bne_eq_false_iff_eq.mpr c59; clear c59
                by_cases c60 : t427 = true
                · subst c60
                  replace H := ifT H; obtain ⟨t438, A61, H⟩ := bnd H
                  by_cases c62 : t438 > t420
                  · rw [if_pos c62] at H
                    have c62b0 : decide (t420 < t438) = true := decide_eq_true c62; clear c62; obtain rfl := Option.some.inj H
                    go_wp2_with (first | ((with_reducible refine gate_callee (f := 13) rfl ?_); refine goesK (some 37) Try.func13 #[.slice Ao8 t419.length co8, .int .i64 (wrap64 (t420 + 1))] ?_; (with_reducible refine (impl_ZeroMany.calls kj5 _ _ t419 (wrap64 (t420 + 1)) t425 _ ?side1 ?side2 A13.out).mono ?_); (case side1 => exact U ((Kd.R_reads' HO_3.out).2.2)); (case side2 => exact (Kd.R_reads' HO_3.out).2.1); rintro e w63 ⟨rfl, hb⟩; refine ⟨_, rfl, ?_⟩; replace HO_3 := Aside0.mk (Kd.R_below (U HO_3.out) hb); replace HB := BS hb; (try clear hb)) | ((with_reducible refine gate_callee (f := 15) rfl ?_); refine goesK (some 40) Try.func15 #[.slice Ao8 t419.length co8] ?_; (with_reducible refine (impl_ZeroFind.calls kj5 _ _ t419 t426 true _ ?side1 ?side2 A14.out).mono ?_); (case side1 => exact U ((Kd.R_reads' HO_3.out).2.2)); (case side2 => exact (Kd.R_reads' HO_3.out).2.1); rintro e w64 ⟨v428, rfl, ho0, hb⟩; refine ⟨_, rfl, ?_⟩; have HO429 := Aside0.mk (Kd.R_lower (Kd.R_new' ho0 (Kd.R_lt (U HO_3.out))) (below_size BU)); replace HO_3 := Aside0.mk (Kd.R_elder' (U HO_3.out) (Kd.R_base ho0) hb); replace HB := BS hb; (try clear hb); (try clear ho0)) | (go_at_call 9; (with_reducible refine (impl_FormBad.calls kj5 _ _ t419 t435 _ ?side1 ?side2 A58.out).mono ?_); (case side1 => exact U ((Kd.R_reads' HO_3.out).2.2)); (case side2 => exact (Kd.R_reads' HO_3.out).2.1); rintro e w65 ⟨v436, rfl, ho0, hb⟩; have HO437 := Aside0.mk (Kd.R_lower (Kd.R_new' (Kd.R_new' ho0 (Kd.R_lt (U HO_3.out))) (Kd.R_lt (U HO429.out))) (below_size BU)); replace HO_3 := Aside0.mk (Kd.R_elder' (U HO_3.out) (Kd.R_base ho0) hb); replace HO429 := Aside0.mk (Kd.R_elder' (U HO429.out) (Kd.R_base ho0) hb); replace HB := BS hb; (try clear hb); (try clear ho0); obtain ⟨Ao66, co66, eo66⟩ := Kd.R_slice HO437.out; subst eo66; obtain ⟨Ao67, co67, eo67⟩ := Kd.R_slice HO429.out; subst eo67) | (go_at_call 16; (with_reducible refine (impl_ZeroHeight.calls kj5 _ _ t419 _ _ t426 t438 _ ?side1 ?side2 ?side3 ?side4 A61.out).mono ?_); (case side1 => exact U ((Kd.R_reads' HO_3.out).2.2)); (case side2 => exact (Kd.R_reads' HO_3.out).2.1); (case side3 => exact U ((Kd.R_reads' HO429.out).2.2)); (case side4 => exact (Kd.R_reads' HO429.out).2.1); rintro e w68 ⟨rfl, hb⟩; replace HO_3 := Aside0.mk (Kd.R_below (U HO_3.out) hb); replace HO429 := Aside0.mk (Kd.R_below (U HO429.out) hb); replace HO437 := Aside0.mk (Kd.R_below (U HO437.out) hb); replace HB := BS hb; (try clear hb)))
                    go_ret
                    exact ⟨eR, BU⟩
                  · rw [if_neg c62] at H
                    have c62b0 : decide (t420 < t438) = false := decide_eq_false c62; clear c62; obtain rfl := Option.some.inj H
                    go_wp2_with (first | ((with_reducible refine gate_callee (f := 13) rfl ?_); refine goesK (some 37) Try.func13 #[.slice Ao8 t419.length co8, .int .i64 (wrap64 (t420 + 1))] ?_; (with_reducible refine (impl_ZeroMany.calls kj5 _ _ t419 (wrap64 (t420 + 1)) t425 _ ?side1 ?side2 A13.out).mono ?_); (case side1 => exact U ((Kd.R_reads' HO_3.out).2.2)); (case side2 => exact (Kd.R_reads' HO_3.out).2.1); rintro e w69 ⟨rfl, hb⟩; refine ⟨_, rfl, ?_⟩; replace HO_3 := Aside0.mk (Kd.R_below (U HO_3.out) hb); replace HB := BS hb; (try clear hb)) | ((with_reducible refine gate_callee (f := 15) rfl ?_); refine goesK (some 40) Try.func15 #[.slice Ao8 t419.length co8] ?_; (with_reducible refine (impl_ZeroFind.calls kj5 _ _ t419 t426 true _ ?side1 ?side2 A14.out).mono ?_); (case side1 => exact U ((Kd.R_reads' HO_3.out).2.2)); (case side2 => exact (Kd.R_reads' HO_3.out).2.1); rintro e w70 ⟨v428, rfl, ho0, hb⟩; refine ⟨_, rfl, ?_⟩; have HO429 := Aside0.mk (Kd.R_lower (Kd.R_new' ho0 (Kd.R_lt (U HO_3.out))) (below_size BU)); replace HO_3 := Aside0.mk (Kd.R_elder' (U HO_3.out) (Kd.R_base ho0) hb); replace HB := BS hb; (try clear hb); (try clear ho0)) | (go_at_call 9; (with_reducible refine (impl_FormBad.calls kj5 _ _ t419 t435 _ ?side1 ?side2 A58.out).mono ?_); (case side1 => exact U ((Kd.R_reads' HO_3.out).2.2)); (case side2 => exact (Kd.R_reads' HO_3.out).2.1); rintro e w71 ⟨v436, rfl, ho0, hb⟩; have HO437 := Aside0.mk (Kd.R_lower (Kd.R_new' (Kd.R_new' ho0 (Kd.R_lt (U HO_3.out))) (Kd.R_lt (U HO429.out))) (below_size BU)); replace HO_3 := Aside0.mk (Kd.R_elder' (U HO_3.out) (Kd.R_base ho0) hb); replace HO429 := Aside0.mk (Kd.R_elder' (U HO429.out) (Kd.R_base ho0) hb); replace HB := BS hb; (try clear hb); (try clear ho0); obtain ⟨Ao72, co72, eo72⟩ := Kd.R_slice HO437.out; subst eo72; obtain ⟨Ao73, co73, eo73⟩ := Kd.R_slice HO429.out; subst eo73) | (go_at_call 16; (with_reducible refine (impl_ZeroHeight.calls kj5 _ _ t419 _ _ t426 t438 _ ?side1 ?side2 ?side3 ?side4 A61.out).mono ?_); (case side1 => exact U ((Kd.R_reads' HO_3.out).2.2)); (case side2 => exact (Kd.R_reads' HO_3.out).2.1); (case side3 => exact U ((Kd.R_reads' HO429.out).2.2)); (case side4 => exact (Kd.R_reads' HO429.out).2.1); rintro e w74 ⟨rfl, hb⟩; replace HO_3 := Aside0.mk (Kd.R_below (U HO_3.out) hb); replace HO429 := Aside0.mk (Kd.R_below (U HO429.out) hb); replace HO437 := Aside0.mk (Kd.R_below (U HO437.out) hb); replace HB := BS hb; (try clear hb)))
                    go_ret
                    exact ⟨eR, BU⟩
                · replace c60 := Bool.eq_false_iff.mpr c60
                  subst c60; replace H := ifF H; obtain rfl := Option.some.inj H
                  go_wp2_with (first | ((with_reducible refine gate_callee (f := 13) rfl ?_); refine goesK (some 37) Try.func13 #[.slice Ao8 t419.length co8, .int .i64 (wrap64 (t420 + 1))] ?_; (with_reducible refine (impl_ZeroMany.calls kj5 _ _ t419 (wrap64 (t420 + 1)) t425 _ ?side1 ?side2 A13.out).mono ?_); (case side1 => exact U ((Kd.R_reads' HO_3.out).2.2)); (case side2 => exact (Kd.R_reads' HO_3.out).2.1); rintro e w75 ⟨rfl, hb⟩; refine ⟨_, rfl, ?_⟩; replace HO_3 := Aside0.mk (Kd.R_below (U HO_3.out) hb); replace HB := BS hb; (try clear hb)) | ((with_reducible refine gate_callee (f := 15) rfl ?_); refine goesK (some 40) Try.func15 #[.slice Ao8 t419.length co8] ?_; (with_reducible refine (impl_ZeroFind.calls kj5 _ _ t419 t426 false _ ?side1 ?side2 A14.out).mono ?_); (case side1 => exact U ((Kd.R_reads' HO_3.out).2.2)); (case side2 => exact (Kd.R_reads' HO_3.out).2.1); rintro e w76 ⟨v428, rfl, ho0, hb⟩; refine ⟨_, rfl, ?_⟩; have HO429 := Aside0.mk (Kd.R_lower (Kd.R_new' ho0 (Kd.R_lt (U HO_3.out))) (below_size BU)); replace HO_3 := Aside0.mk (Kd.R_elder' (U HO_3.out) (Kd.R_base ho0) hb); replace HB := BS hb; (try clear hb); (try clear ho0)) | (go_at_call 9; (with_reducible refine (impl_FormBad.calls kj5 _ _ t419 t435 _ ?side1 ?side2 A58.out).mono ?_); (case side1 => exact U ((Kd.R_reads' HO_3.out).2.2)); (case side2 => exact (Kd.R_reads' HO_3.out).2.1); rintro e w77 ⟨v436, rfl, ho0, hb⟩; have HO437 := Aside0.mk (Kd.R_lower (Kd.R_new' (Kd.R_new' ho0 (Kd.R_lt (U HO_3.out))) (Kd.R_lt (U HO429.out))) (below_size BU)); replace HO_3 := Aside0.mk (Kd.R_elder' (U HO_3.out) (Kd.R_base ho0) hb); replace HO429 := Aside0.mk (Kd.R_elder' (U HO429.out) (Kd.R_base ho0) hb); replace HB := BS hb; (try clear hb); (try clear ho0); obtain ⟨Ao78, co78, eo78⟩ := Kd.R_slice HO437.out; subst eo78))
                  go_ret
                  exact ⟨eR, BU⟩
              · rw [if_neg c59] at H
                have c59b0 : ((t435.length : Int) == 0) = false := beq_eq_false_iff_ne.mpr c59; have c59b1 : ((t435.length : Int) != 0) = true := bne_iff_ne.mpr c59
                have c59b2 : ¬ (t435 = []) := fun h_ => c59 (by rw [h_]; rfl)
                by_cases c79 : t423 = 0
                · rw [if_pos c79] at H
                  have c79b0 : (t423 == 0) = true := beq_iff_eq.mpr c79; have c79b1 : (t423 != 0) = false := bne_eq_false_iff_eq.mpr c79; clear c79
                  by_cases c80 : t427 = true
                  · subst c80
                    replace H := ifT H; obtain ⟨t439, A81, H⟩ := bnd H
                    by_cases c82 : t439 > t420
                    · rw [if_pos c82] at H
                      have c82b0 : decide (t420 < t439) = true := decide_eq_true c82; clear c82; obtain rfl := Option.some.inj H
                      go_wp2_with (first | ((with_reducible refine gate_callee (f := 13) rfl ?_); refine goesK (some 37) Try.func13 #[.slice Ao8 t419.length co8, .int .i64 (wrap64 (t420 + 1))] ?_; (with_reducible refine (impl_ZeroMany.calls kj5 _ _ t419 (wrap64 (t420 + 1)) t425 _ ?side1 ?side2 A13.out).mono ?_); (case side1 => exact U ((Kd.R_reads' HO_3.out).2.2)); (case side2 => exact (Kd.R_reads' HO_3.out).2.1); rintro e w83 ⟨rfl, hb⟩; refine ⟨_, rfl, ?_⟩; replace HO_3 := Aside0.mk (Kd.R_below (U HO_3.out) hb); replace HB := BS hb; (try clear hb)) | ((with_reducible refine gate_callee (f := 15) rfl ?_); refine goesK (some 40) Try.func15 #[.slice Ao8 t419.length co8] ?_; (with_reducible refine (impl_ZeroFind.calls kj5 _ _ t419 t426 true _ ?side1 ?side2 A14.out).mono ?_); (case side1 => exact U ((Kd.R_reads' HO_3.out).2.2)); (case side2 => exact (Kd.R_reads' HO_3.out).2.1); rintro e w84 ⟨v428, rfl, ho0, hb⟩; refine ⟨_, rfl, ?_⟩; have HO429 := Aside0.mk (Kd.R_lower (Kd.R_new' ho0 (Kd.R_lt (U HO_3.out))) (below_size BU)); replace HO_3 := Aside0.mk (Kd.R_elder' (U HO_3.out) (Kd.R_base ho0) hb); replace HB := BS hb; (try clear hb); (try clear ho0)) | (go_at_call 9; (with_reducible refine (impl_FormBad.calls kj5 _ _ t419 t435 _ ?side1 ?side2 A58.out).mono ?_); (case side1 => exact U ((Kd.R_reads' HO_3.out).2.2)); (case side2 => exact (Kd.R_reads' HO_3.out).2.1); rintro e w85 ⟨v436, rfl, ho0, hb⟩; have HO437 := Aside0.mk (Kd.R_lower (Kd.R_new' (Kd.R_new' ho0 (Kd.R_lt (U HO_3.out))) (Kd.R_lt (U HO429.out))) (below_size BU)); replace HO_3 := Aside0.mk (Kd.R_elder' (U HO_3.out) (Kd.R_base ho0) hb); replace HO429 := Aside0.mk (Kd.R_elder' (U HO429.out) (Kd.R_base ho0) hb); replace HB := BS hb; (try clear hb); (try clear ho0); obtain ⟨Ao86, co86, eo86⟩ := Kd.R_slice HO437.out; subst eo86; obtain ⟨Ao87, co87, eo87⟩ := Kd.R_slice HO429.out; subst eo87) | (go_at_call 16; (with_reducible refine (impl_ZeroHeight.calls kj5 _ _ t419 _ _ t426 t439 _ ?side1 ?side2 ?side3 ?side4 A81.out).mono ?_); (case side1 => exact U ((Kd.R_reads' HO_3.out).2.2)); (case side2 => exact (Kd.R_reads' HO_3.out).2.1); (case side3 => exact U ((Kd.R_reads' HO429.out).2.2)); (case side4 => exact (Kd.R_reads' HO429.out).2.1); rintro e w88 ⟨rfl, hb⟩; replace HO_3 := Aside0.mk (Kd.R_below (U HO_3.out) hb); replace HO429 := Aside0.mk (Kd.R_below (U HO429.out) hb); replace HO437 := Aside0.mk (Kd.R_below (U HO437.out) hb); replace HB := BS hb; (try clear hb)))
                      go_ret
                      exact ⟨eR, BU⟩
                    · rw [if_neg c82] at H
                      have c82b0 : decide (t420 < t439) = false := decide_eq_false c82; clear c82; obtain rfl := Option.some.inj H
                      go_wp2_with (first | ((with_reducible refine gate_callee (f := 13) rfl ?_); refine goesK (some 37) Try.func13 #[.slice Ao8 t419.length co8, .int .i64 (wrap64 (t420 + 1))] ?_; (with_reducible refine (impl_ZeroMany.calls kj5 _ _ t419 (wrap64 (t420 + 1)) t425 _ ?side1 ?side2 A13.out).mono ?_); (case side1 => exact U ((Kd.R_reads' HO_3.out).2.2)); (case side2 => exact (Kd.R_reads' HO_3.out).2.1); rintro e w89 ⟨rfl, hb⟩; refine ⟨_, rfl, ?_⟩; replace HO_3 := Aside0.mk (Kd.R_below (U HO_3.out) hb); replace HB := BS hb; (try clear hb)) | ((with_reducible refine gate_callee (f := 15) rfl ?_); refine goesK (some 40) Try.func15 #[.slice Ao8 t419.length co8] ?_; (with_reducible refine (impl_ZeroFind.calls kj5 _ _ t419 t426 true _ ?side1 ?side2 A14.out).mono ?_); (case side1 => exact U ((Kd.R_reads' HO_3.out).2.2)); (case side2 => exact (Kd.R_reads' HO_3.out).2.1); rintro e w90 ⟨v428, rfl, ho0, hb⟩; refine ⟨_, rfl, ?_⟩; have HO429 := Aside0.mk (Kd.R_lower (Kd.R_new' ho0 (Kd.R_lt (U HO_3.out))) (below_size BU)); replace HO_3 := Aside0.mk (Kd.R_elder' (U HO_3.out) (Kd.R_base ho0) hb); replace HB := BS hb; (try clear hb); (try clear ho0)) | (go_at_call 9; (with_reducible refine (impl_FormBad.calls kj5 _ _ t419 t435 _ ?side1 ?side2 A58.out).mono ?_); (case side1 => exact U ((Kd.R_reads' HO_3.out).2.2)); (case side2 => exact (Kd.R_reads' HO_3.out).2.1); rintro e w91 ⟨v436, rfl, ho0, hb⟩; have HO437 := Aside0.mk (Kd.R_lower (Kd.R_new' (Kd.R_new' ho0 (Kd.R_lt (U HO_3.out))) (Kd.R_lt (U HO429.out))) (below_size BU)); replace HO_3 := Aside0.mk (Kd.R_elder' (U HO_3.out) (Kd.R_base ho0) hb); replace HO429 := Aside0.mk (Kd.R_elder' (U HO429.out) (Kd.R_base ho0) hb); replace HB := BS hb; (try clear hb); (try clear ho0); obtain ⟨Ao92, co92, eo92⟩ := Kd.R_slice HO437.out; subst eo92; obtain ⟨Ao93, co93, eo93⟩ := Kd.R_slice HO429.out; subst eo93) | (go_at_call 16; (with_reducible refine (impl_ZeroHeight.calls kj5 _ _ t419 _ _ t426 t439 _ ?side1 ?side2 ?side3 ?side4 A81.out).mono ?_); (case side1 => exact U ((Kd.R_reads' HO_3.out).2.2)); (case side2 => exact (Kd.R_reads' HO_3.out).2.1); (case side3 => exact U ((Kd.R_reads' HO429.out).2.2)); (case side4 => exact (Kd.R_reads' HO429.out).2.1); rintro e w94 ⟨rfl, hb⟩; replace HO_3 := Aside0.mk (Kd.R_below (U HO_3.out) hb); replace HO429 := Aside0.mk (Kd.R_below (U HO429.out) hb); replace HO437 := Aside0.mk (Kd.R_below (U HO437.out) hb); replace HB := BS hb; (try clear hb)))
                      go_ret
                      exact ⟨eR, BU⟩
                  · replace c80 := Bool.eq_false_iff.mpr c80
                    subst c80; replace H := ifF H; obtain rfl := Option.some.inj H
                    go_wp2_with (first | ((with_reducible refine gate_callee (f := 13) rfl ?_); refine goesK (some 37) Try.func13 #[.slice Ao8 t419.length co8, .int .i64 (wrap64 (t420 + 1))] ?_; (with_reducible refine (impl_ZeroMany.calls kj5 _ _ t419 (wrap64 (t420 + 1)) t425 _ ?side1 ?side2 A13.out).mono ?_); (case side1 => exact U ((Kd.R_reads' HO_3.out).2.2)); (case side2 => exact (Kd.R_reads' HO_3.out).2.1); rintro e w95 ⟨rfl, hb⟩; refine ⟨_, rfl, ?_⟩; replace HO_3 := Aside0.mk (Kd.R_below (U HO_3.out) hb); replace HB := BS hb; (try clear hb)) | ((with_reducible refine gate_callee (f := 15) rfl ?_); refine goesK (some 40) Try.func15 #[.slice Ao8 t419.length co8] ?_; (with_reducible refine (impl_ZeroFind.calls kj5 _ _ t419 t426 false _ ?side1 ?side2 A14.out).mono ?_); (case side1 => exact U ((Kd.R_reads' HO_3.out).2.2)); (case side2 => exact (Kd.R_reads' HO_3.out).2.1); rintro e w96 ⟨v428, rfl, ho0, hb⟩; refine ⟨_, rfl, ?_⟩; have HO429 := Aside0.mk (Kd.R_lower (Kd.R_new' ho0 (Kd.R_lt (U HO_3.out))) (below_size BU)); replace HO_3 := Aside0.mk (Kd.R_elder' (U HO_3.out) (Kd.R_base ho0) hb); replace HB := BS hb; (try clear hb); (try clear ho0)) | (go_at_call 9; (with_reducible refine (impl_FormBad.calls kj5 _ _ t419 t435 _ ?side1 ?side2 A58.out).mono ?_); (case side1 => exact U ((Kd.R_reads' HO_3.out).2.2)); (case side2 => exact (Kd.R_reads' HO_3.out).2.1); rintro e w97 ⟨v436, rfl, ho0, hb⟩; have HO437 := Aside0.mk (Kd.R_lower (Kd.R_new' (Kd.R_new' ho0 (Kd.R_lt (U HO_3.out))) (Kd.R_lt (U HO429.out))) (below_size BU)); replace HO_3 := Aside0.mk (Kd.R_elder' (U HO_3.out) (Kd.R_base ho0) hb); replace HO429 := Aside0.mk (Kd.R_elder' (U HO429.out) (Kd.R_base ho0) hb); replace HB := BS hb; (try clear hb); (try clear ho0); obtain ⟨Ao98, co98, eo98⟩ := Kd.R_slice HO437.out; subst eo98))
                    go_ret
                    exact ⟨eR, BU⟩
                · rw [if_neg c79] at H
                  exact absurd H (by simp)
            · rw [if_neg c57] at H
              exact absurd H (by simp)

/-- THE ONE PURE STATEMENT of laws_FnMany: yours. -/
def laws_FnMany.Pure : Prop := ∀ (l0 : List Int), l0.length ≤ maxLen → l0.length * 1 ≤ 140737488351232 → (∀ x ∈ l0, (Lit.int .u8 x).wf = true) → ∃ k, laws_FnMany.f k l0 = some true
theorem laws_FnMany.walk (P : laws_FnMany.Pure) (a0 : Option Addr) (len0 cap0 : Nat) (z0 : List Int) (w : World) (w0 : (a0 = none ∧ len0 = 0 ∧ cap0 = 0 ∧ z0 = []) ∨ ∃ x, a0 = some x ∧ len0 ≤ cap0 ∧ cap0 ≤ maxLen ∧ z0.length = cap0 ∧ (∀ i, i < z0.length → w.cell? (x.add i) = some (.int .u8 (z0.getD i 0))) ∧ ∀ n ∈ z0, (Lit.int .u8 n).wf = true) (y0 : len0 * 1 ≤ 140737488351232) :
    Calls Try.prog 4 #[.slice a0 len0 cap0] w fun e w' => e = .returned (.bool true) ∧ Below w.heap.size w w' := by
  obtain ⟨l0, rfl, hr0, hm0, hw0, hc0⟩ := ReadsInt.ofRowC w0
  obtain ⟨k, h⟩ := P l0 hm0 y0 hw0
  refine (laws_FnMany.calls k _ _ l0 true w (Kd.C_of_reads (d := (0 : Int)) (h1 := fun _ => rfl) hr0) hc0 h).mono ?_
  rintro e w' ⟨rfl, hd⟩
  exact ⟨rfl, hd⟩

end Go.Proofs.Ytpjgcjkodmkemaa.PFnMany
