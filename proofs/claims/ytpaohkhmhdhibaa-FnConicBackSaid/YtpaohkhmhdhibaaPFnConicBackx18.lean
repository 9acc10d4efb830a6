-- Written by a program of this session (wip/print2.py): the functions that the law reaches, plain, and the walks.
import Derived.Test.YtpaohkhmhdhibaaPFnConicBackx0
import Derived.Test.YtpaohkhmhdhibaaPFnConicBackx4
import Derived.Test.YtpaohkhmhdhibaaPFnConicBackx5
import Derived.Test.YtpaohkhmhdhibaaPFnConicBackx6
import Derived.Test.YtpaohkhmhdhibaaPFnConicBackx16
import Derived.Test.YtpaohkhmhdhibaaPFnConicBackx17
namespace Go.Proofs.Ytpaohkhmhdhibaa.PFnConicBack
open Go.RowKit Go.Proofs.YtpaohkhmhdhibaaW.PrintWords Go.Proofs.YtpaohkhmhdhibaaW.PrintLast Go.Proofs.YtpaohkhmhdhibaaW.PrintMore
attribute [local go_sem] max2_int min2_int max_two min_two max_three min_three max_four min_four   -- for this text's walks alone
set_option linter.unusedVariables false
set_option linter.unusedSimpArgs false

/-! ### laws_FnConicBack: function 6 -/
def laws_FnConicBack.j0 : Nat → List Int → List Int → List Int → Int → Int → Bool → Int → Int → Bool → Bool → Option (Bool)
  | 0, _, _, _, _, _, _, _, _, _, _ => none
  | k + 1, x3, x4, x5, x6, x7, x8, x9, x10, x11, x57 => if x57 = true then (if (x8 == x11) = true then (if x7 = x10 then (some (x6 == x9)) else (none)) else (none)) else ((impl_ConicAt.f k x3 x4 x6 x7).bind fun bt655 => ((impl_ZeroPlain.f k x3 x5).bind fun bt659 => (if bt659.2 = true then (if bt655.2 = true then ((laws_sameInts.f k bt655.1 bt659.1).bind fun t663 => (if t663 = true then (if x6 > 0 then ((impl_GcdOf.f k x6 x7).bind fun t664 => (some (decide (t664 ≤ 1)))) else (if x6 = 0 then (if x7 > 0 then ((impl_GcdOf.f k x6 x7).bind fun t665 => (some (decide (t665 ≤ 1)))) else (none)) else (none))) else (none))) else (if x6 > 0 then ((impl_GcdOf.f k x6 x7).bind fun t666 => (some (decide (t666 ≤ 1)))) else (if x6 = 0 then (if x7 > 0 then ((impl_GcdOf.f k x6 x7).bind fun t667 => (some (decide (t667 ≤ 1)))) else (none)) else (none)))) else (none))))
def laws_FnConicBack.f (k : Nat) (l0 : List Int) : Option (Bool) := if (l0.length : Int) > 1048576 then (some true) else ((spec_DrawConicBack.f k l0).bind fun bt640 => ((impl_ConicBack.f k bt640.1 bt640.2.1 bt640.2.2).bind fun bt649 => ((spec_ConicBack.f k bt640.1 bt640.2.1 bt640.2.2).bind fun bt652 => (if (bt649.2.2 != bt652.2.2) = true then (laws_FnConicBack.j0 k bt640.1 bt640.2.1 bt640.2.2 bt649.1 bt649.2.1 bt649.2.2 bt652.1 bt652.2.1 bt652.2.2 true) else (if bt649.2.1 = bt652.2.1 then (if bt649.1 = bt652.1 then (laws_FnConicBack.j0 k bt640.1 bt640.2.1 bt640.2.2 bt649.1 bt649.2.1 bt649.2.2 bt652.1 bt652.2.1 bt652.2.2 (!bt649.2.2)) else (laws_FnConicBack.j0 k bt640.1 bt640.2.1 bt640.2.2 bt649.1 bt649.2.1 bt649.2.2 bt652.1 bt652.2.1 bt652.2.2 true)) else (laws_FnConicBack.j0 k bt640.1 bt640.2.1 bt640.2.2 bt649.1 bt649.2.1 bt649.2.2 bt652.1 bt652.2.1 bt652.2.2 true))))))
theorem laws_FnConicBack.mono_l : ∀ k, (∀ y0 y1 y2 y3 y4 y5 y6 y7 y8 y9, LeO (laws_FnConicBack.j0 k y0 y1 y2 y3 y4 y5 y6 y7 y8 y9) (laws_FnConicBack.j0 (k + 1) y0 y1 y2 y3 y4 y5 y6 y7 y8 y9))
  | 0 => fun _ _ _ _ _ _ _ _ _ _ r h => by simp [laws_FnConicBack.j0] at h
  | k + 1 => by
    have ih0 := laws_FnConicBack.mono_l k
    · intro y0 y1 y2 y3 y4 y5 y6 y7 y8 y9
      unfold laws_FnConicBack.j0
      repeat' first
      | (with_reducible exact ih0 _ _ _ _ _ _ _ _ _ _)
      | (with_reducible exact impl_ConicAt.mono _ _ _ _ _)
      | (with_reducible exact impl_ConicBack.mono _ _ _ _)
      | (with_reducible exact impl_GcdOf.mono _ _ _)
      | (with_reducible exact impl_ZeroPlain.mono _ _ _)
      | (with_reducible exact laws_sameInts.mono _ _ _)
      | (with_reducible exact spec_ConicBack.mono _ _ _ _)
      | (with_reducible exact spec_DrawConicBack.mono _ _)
      | (with_reducible exact LeO.refl _)
      | (with_reducible exact LeO.none _)
      | (with_reducible refine LeO.ite ?_ ?_)
      | (with_reducible refine LeO.bind ?_ (fun _ => ?_))
      | exact ih0 _ _ _ _ _ _ _ _ _ _
      | exact impl_ConicAt.mono _ _ _ _ _
      | exact impl_ConicBack.mono _ _ _ _
      | exact impl_GcdOf.mono _ _ _
      | exact impl_ZeroPlain.mono _ _ _
      | exact laws_sameInts.mono _ _ _
      | exact spec_ConicBack.mono _ _ _ _
      | exact spec_DrawConicBack.mono _ _
      | exact LeO.none _
      | refine LeO.ite ?_ ?_
      | refine LeO.bind ?_ (fun _ => ?_)
theorem laws_FnConicBack.mono : ∀ a0 k, LeO (laws_FnConicBack.f k a0) (laws_FnConicBack.f (k + 1) a0) := by
  intro a0 k
  have ih0 := laws_FnConicBack.mono_l k
  unfold laws_FnConicBack.f
  repeat' first
      | (with_reducible exact ih0 _ _ _ _ _ _ _ _ _ _)
      | (with_reducible exact impl_ConicAt.mono _ _ _ _ _)
      | (with_reducible exact impl_ConicBack.mono _ _ _ _)
      | (with_reducible exact impl_GcdOf.mono _ _ _)
      | (with_reducible exact impl_ZeroPlain.mono _ _ _)
      | (with_reducible exact laws_sameInts.mono _ _ _)
      | (with_reducible exact spec_ConicBack.mono _ _ _ _)
      | (with_reducible exact spec_DrawConicBack.mono _ _)
      | (with_reducible exact LeO.refl _)
      | (with_reducible exact LeO.none _)
      | (with_reducible refine LeO.ite ?_ ?_)
      | (with_reducible refine LeO.bind ?_ (fun _ => ?_))
      | exact ih0 _ _ _ _ _ _ _ _ _ _
      | exact impl_ConicAt.mono _ _ _ _ _
      | exact impl_ConicBack.mono _ _ _ _
      | exact impl_GcdOf.mono _ _ _
      | exact impl_ZeroPlain.mono _ _ _
      | exact laws_sameInts.mono _ _ _
      | exact spec_ConicBack.mono _ _ _ _
      | exact spec_DrawConicBack.mono _ _
      | exact LeO.none _
      | refine LeO.ite ?_ ?_
      | refine LeO.bind ?_ (fun _ => ?_)
set_option maxHeartbeats 8000000 in
set_option maxRecDepth 100000 in
theorem laws_FnConicBack.calls (k : Nat) (A0 : Option Addr) (c0 : Nat) (l0 : List Int) (r : Bool) (w : World) (hr0 : Kd.C (Kd.int .u8) w A0 l0.length l0) (hc0 : l0.length ≤ c0) (h : laws_FnConicBack.f k l0 = some r) :
    Calls Try.prog 6 #[.slice A0 l0.length c0] w fun e w' => e = .returned (.bool r) ∧ Below w.heap.size w w' := by
  have HR0 := Aside0.mk hr0; have HC0 := Aside0.mk hc0; clear hr0 hc0; have HB := Aside0.mk (Below.refl w.heap.size w); unfold laws_FnConicBack.f at h; have H := h; clear h
  by_cases c2 : (l0.length : Int) > 1048576
  · rw [if_pos c2] at H
    have c2b0 : decide (1048576 < (l0.length : Int)) = true := decide_eq_true c2; have c2b1 : decide (1048576 < l0.length) = true := decide_eq_true (by omega); clear c2; obtain rfl := Option.some.inj H; go_enter Try.func6, Try.ntmps6
    go_wp2
    go_ret
    exact ⟨eR, BU⟩
  · rw [if_neg c2] at H
    have c2b0 : decide (1048576 < (l0.length : Int)) = false := decide_eq_false c2; have c2b1 : decide (1048576 < l0.length) = false := decide_eq_false (by omega); clear c2; obtain ⟨⟨t640, t641, t642⟩, A3, H⟩ := bnd H
    replace H : ((impl_ConicBack.f k t640 t641 t642).bind fun bt649 => ((spec_ConicBack.f k t640 t641 t642).bind fun bt652 => (if (bt649.2.2 != bt652.2.2) = true then (laws_FnConicBack.j0 k t640 t641 t642 bt649.1 bt649.2.1 bt649.2.2 bt652.1 bt652.2.1 bt652.2.2 true) else (if bt649.2.1 = bt652.2.1 then (if bt649.1 = bt652.1 then (laws_FnConicBack.j0 k t640 t641 t642 bt649.1 bt649.2.1 bt649.2.2 bt652.1 bt652.2.1 bt652.2.2 (!bt649.2.2)) else (laws_FnConicBack.j0 k t640 t641 t642 bt649.1 bt649.2.1 bt649.2.2 bt652.1 bt652.2.1 bt652.2.2 true)) else (laws_FnConicBack.j0 k t640 t641 t642 bt649.1 bt649.2.1 bt649.2.2 bt652.1 bt652.2.1 bt652.2.2 true))))) = some r := H
    obtain ⟨⟨t649, t650, t651⟩, A4, H⟩ := bnd H
    replace H : ((spec_ConicBack.f k t640 t641 t642).bind fun bt652 => (if (t651 != bt652.2.2) = true then (laws_FnConicBack.j0 k t640 t641 t642 t649 t650 t651 bt652.1 bt652.2.1 bt652.2.2 true) else (if t650 = bt652.2.1 then (if t649 = bt652.1 then (laws_FnConicBack.j0 k t640 t641 t642 t649 t650 t651 bt652.1 bt652.2.1 bt652.2.2 (!t651)) else (laws_FnConicBack.j0 k t640 t641 t642 t649 t650 t651 bt652.1 bt652.2.1 bt652.2.2 true)) else (laws_FnConicBack.j0 k t640 t641 t642 t649 t650 t651 bt652.1 bt652.2.1 bt652.2.2 true)))) = some r := H
    obtain ⟨⟨t652, t653, t654⟩, A5, H⟩ := bnd H; replace H : (if (t651 != t654) = true then (laws_FnConicBack.j0 k t640 t641 t642 t649 t650 t651 t652 t653 t654 true) else (if t650 = t653 then (if t649 = t652 then (laws_FnConicBack.j0 k t640 t641 t642 t649 t650 t651 t652 t653 t654 (!t651)) else (laws_FnConicBack.j0 k t640 t641 t642 t649 t650 t651 t652 t653 t654 true)) else (laws_FnConicBack.j0 k t640 t641 t642 t649 t650 t651 t652 t653 t654 true))) = some r := H; have HC6 := Aside0.mk H; clear H; go_enter Try.func6, Try.ntmps6
    go_upto_region 6 with (first | ((with_reducible refine gate_callee (f := 23) rfl ?_); refine goesK (some 21) Try.func23 #[.slice A0 l0.length c0] ?_; (with_reducible refine (spec_DrawConicBack.calls k _ _ l0 t640 t641 t642 _ ?side1 ?side2 A3.out).mono ?_); (case side1 => exact U HR0.out); (case side2 => exact HC0.out); rintro e w7 ⟨v643, v645, v647, rfl, ho0, ho1, ho2, hb⟩; refine ⟨_, rfl, ?_⟩; have HO644 := Aside0.mk (Kd.R_lower ho0 (below_size BU)); have HO646 := Aside0.mk (Kd.R_lower ho1 (below_size BU)); have HO648 := Aside0.mk (Kd.R_lower ho2 (below_size BU)); replace HB := BS hb; (try clear hb); (try clear ho0); (try clear ho1); (try clear ho2); obtain ⟨Ao8, co8, eo8⟩ := Kd.R_slice HO644.out; subst eo8; obtain ⟨Ao9, co9, eo9⟩ := Kd.R_slice HO646.out; subst eo9; obtain ⟨Ao10, co10, eo10⟩ := Kd.R_slice HO648.out; subst eo10) | ((with_reducible refine gate_callee (f := 11) rfl ?_); refine goesK (some 29) Try.func11 #[.slice Ao8 t640.length co8, .slice Ao9 t641.length co9, .slice Ao10 t642.length co10] ?_; (with_reducible refine (impl_ConicBack.calls k _ _ t640 _ _ t641 _ _ t642 t649 t650 t651 _ ?side1 ?side2 ?side3 ?side4 ?side5 ?side6 A4.out).mono ?_); (case side1 => exact U ((Kd.R_reads' HO644.out).2.2)); (case side2 => exact (Kd.R_reads' HO644.out).2.1); (case side3 => exact U ((Kd.R_reads' HO646.out).2.2)); (case side4 => exact (Kd.R_reads' HO646.out).2.1); (case side5 => exact U ((Kd.R_reads' HO648.out).2.2)); (case side6 => exact (Kd.R_reads' HO648.out).2.1); rintro e w11 ⟨rfl, hb⟩; refine ⟨_, rfl, ?_⟩; replace HO644 := Aside0.mk (Kd.R_below (U HO644.out) hb); replace HO646 := Aside0.mk (Kd.R_below (U HO646.out) hb); replace HO648 := Aside0.mk (Kd.R_below (U HO648.out) hb); replace HB := BS hb; (try clear hb)) | ((with_reducible refine gate_callee (f := 24) rfl ?_); refine goesK (some 37) Try.func24 #[.slice Ao8 t640.length co8, .slice Ao9 t641.length co9, .slice Ao10 t642.length co10] ?_; (with_reducible refine (spec_ConicBack.calls k _ _ t640 _ _ t641 _ _ t642 t652 t653 t654 _ ?side1 ?side2 ?side3 ?side4 ?side5 ?side6 A5.out).mono ?_); (case side1 => exact U ((Kd.R_reads' HO644.out).2.2)); (case side2 => exact (Kd.R_reads' HO644.out).2.1); (case side3 => exact U ((Kd.R_reads' HO646.out).2.2)); (case side4 => exact (Kd.R_reads' HO646.out).2.1); (case side5 => exact U ((Kd.R_reads' HO648.out).2.2)); (case side6 => exact (Kd.R_reads' HO648.out).2.1); rintro e w12 ⟨rfl, hb⟩; refine ⟨_, rfl, ?_⟩; replace HO644 := Aside0.mk (Kd.R_below (U HO644.out) hb); replace HO646 := Aside0.mk (Kd.R_below (U HO646.out) hb); replace HO648 := Aside0.mk (Kd.R_below (U HO648.out) hb); replace HB := BS hb; (try clear hb)))
    (try simp only [Act.put, List.setIfInBounds_toArray, List.set_cons_zero, List.set_cons_succ])
    go_cut [57] (fun v57 wc => ∃ (kq : Nat) (x57_5 : Bool), v57 = .bool x57_5 ∧ Aside0 (laws_FnConicBack.j0 kq t640 t641 t642 t649 t650 t651 t652 t653 t654 x57_5 = some r) ∧ Aside0 (kq ≤ k) ∧ Aside0 (Kd.R (Kd.int .i64) 3 wc w.heap.size (fun k_ => some k_ ≠ ((.slice Ao9 t641.length co9) : Value).ownBlock ∧ some k_ ≠ ((.slice Ao10 t642.length co10) : Value).ownBlock) (.slice Ao8 t640.length co8) t640) ∧ Aside0 (Kd.R (Kd.int .i64) 3 wc w.heap.size (fun k_ => some k_ ≠ ((.slice Ao8 t640.length co8) : Value).ownBlock ∧ some k_ ≠ ((.slice Ao10 t642.length co10) : Value).ownBlock) (.slice Ao9 t641.length co9) t641) ∧ Aside0 (Kd.R (Kd.int .i64) 3 wc w.heap.size (fun k_ => some k_ ≠ ((.slice Ao8 t640.length co8) : Value).ownBlock ∧ some k_ ≠ ((.slice Ao9 t641.length co9) : Value).ownBlock) (.slice Ao10 t642.length co10) t642) ∧ Aside0 (Below w.heap.size w wc))
    case first =>
      have H := HC6.out; clear HC6
      by_cases c13 : (t651 != t654) = true
      · rw [if_pos c13] at H
        have c13b0 : (t651 != t654) = true := c13
        (try (have c13b1 : decide (t651 = t654) = false := by simpa using c13))
        (try (have c13b2 : (t651 == t654) = false := by simpa using c13))
        (try (have c13b3 : ¬ (t651 = t654) := by simpa using c13))
        clear c13
        (first | rw [c13b0] | (simp only [i64_w, i32_w]; rw [c13b0]) | skip)
        have H' := Aside0.mk H; clear H
        go_wp2
        go_meet
        case rel => exact ⟨_, (true), sR, H', ⟨oR⟩, ⟨U HO644.out⟩, ⟨U HO646.out⟩, ⟨U HO648.out⟩, ⟨BU⟩⟩
      · rw [if_neg c13] at H
        have c13b0 : (t651 != t654) = false := by simpa using c13
        (try (have c13b1 : decide (t651 = t654) = true := by simpa using c13))
        (try (have c13b2 : (t651 == t654) = true := by simpa using c13))
        clear c13
        (first | rw [c13b0] | (simp only [i64_w, i32_w]; rw [c13b0]) | skip)
        by_cases c14 : t650 = t653
        · rw [if_pos c14] at H
          have c14b0 : (t650 == t653) = true := beq_iff_eq.mpr c14; have c14b1 : (t650 != t653) = false := bne_eq_false_iff_eq.mpr c14; clear c14
          by_cases c15 : t649 = t652
          · rw [if_pos c15] at H
            have c15b0 : (t649 == t652) = true := beq_iff_eq.mpr c15; have c15b1 : (t649 != t652) = false := bne_eq_false_iff_eq.mpr c15; clear c15; have H' := Aside0.mk H; clear H
            go_wp2
            go_meet
            case rel => exact ⟨_, (!t651), sR, H', ⟨oR⟩, ⟨U HO644.out⟩, ⟨U HO646.out⟩, ⟨U HO648.out⟩, ⟨BU⟩⟩
          · rw [if_neg c15] at H
            have c15b0 : (t649 == t652) = false := beq_eq_false_iff_ne.mpr c15; have c15b1 : (t649 != t652) = true := bne_iff_ne.mpr c15; have H' := Aside0.mk H; clear H
            go_wp2
            go_meet
            case rel => exact ⟨_, (true), sR, H', ⟨oR⟩, ⟨U HO644.out⟩, ⟨U HO646.out⟩, ⟨U HO648.out⟩, ⟨BU⟩⟩
        · rw [if_neg c14] at H
          have c14b0 : (t650 == t653) = false := beq_eq_false_iff_ne.mpr c14; have c14b1 : (t650 != t653) = true := bne_iff_ne.mpr c14; have H' := Aside0.mk H; clear H
          go_wp2
          go_meet
          case rel => exact ⟨_, (true), sR, H', ⟨oR⟩, ⟨U HO644.out⟩, ⟨U HO646.out⟩, ⟨U HO648.out⟩, ⟨BU⟩⟩
    case rest =>
      clear HC6; (try clear c2); (try clear c2b0); (try clear c2b1); obtain ⟨kq, x57_5, rfl, HA, HJ5, HO_3, HO_4, HO_5, HB⟩ := hcut; cases kq with
      | zero => exact absurd HA.out (by simp [laws_FnConicBack.j0])
      | succ kj5 =>
        have H := HA.out; clear HA; simp only [laws_FnConicBack.j0] at H
        by_cases c16 : x57_5 = true
        · subst c16
          replace H := ifT H
          by_cases c17 : (t651 == t654) = true
          · rw [if_pos c17] at H
            have c17b0 : (t651 == t654) = true := c17
            (try (have c17b1 : decide (t651 = t654) = true := by simpa using c17))
            (try (have c17b2 : (t651 == t654) = true := by simpa using c17))
            clear c17
            by_cases c18 : t650 = t653
            · rw [if_pos c18] at H
              have c18b0 : (t650 == t653) = true := beq_iff_eq.mpr c18; have c18b1 : (t650 != t653) = false := bne_eq_false_iff_eq.mpr c18; clear c18; obtain rfl := Option.some.inj H
              go_wp2
              go_ret
              exact ⟨eR, BU⟩
            · rw [if_neg c18] at H
              exact absurd H (by simp)
          · rw [if_neg c17] at H
            exact absurd H (by simp)
        · replace c16 := Bool.eq_false_iff.mpr c16
          subst c16; replace H := ifF H; obtain ⟨⟨t655, t656⟩, A19, H⟩ := bnd H
          replace H : ((impl_ZeroPlain.f kj5 t640 t642).bind fun bt659 => (if bt659.2 = true then (if t656 = true then ((laws_sameInts.f kj5 t655 bt659.1).bind fun t663 => (if t663 = true then (if t649 > 0 then ((impl_GcdOf.f kj5 t649 t650).bind fun t664 => (some (decide (t664 ≤ 1)))) else (if t649 = 0 then (if t650 > 0 then ((impl_GcdOf.f kj5 t649 t650).bind fun t665 => (some (decide (t665 ≤ 1)))) else (none)) else (none))) else (none))) else (if t649 > 0 then ((impl_GcdOf.f kj5 t649 t650).bind fun t666 => (some (decide (t666 ≤ 1)))) else (if t649 = 0 then (if t650 > 0 then ((impl_GcdOf.f kj5 t649 t650).bind fun t667 => (some (decide (t667 ≤ 1)))) else (none)) else (none)))) else (none))) = some r := H
          obtain ⟨⟨t659, t660⟩, A20, H⟩ := bnd H
          replace H : (if t660 = true then (if t656 = true then ((laws_sameInts.f kj5 t655 t659).bind fun t663 => (if t663 = true then (if t649 > 0 then ((impl_GcdOf.f kj5 t649 t650).bind fun t664 => (some (decide (t664 ≤ 1)))) else (if t649 = 0 then (if t650 > 0 then ((impl_GcdOf.f kj5 t649 t650).bind fun t665 => (some (decide (t665 ≤ 1)))) else (none)) else (none))) else (none))) else (if t649 > 0 then ((impl_GcdOf.f kj5 t649 t650).bind fun t666 => (some (decide (t666 ≤ 1)))) else (if t649 = 0 then (if t650 > 0 then ((impl_GcdOf.f kj5 t649 t650).bind fun t667 => (some (decide (t667 ≤ 1)))) else (none)) else (none)))) else (none)) = some r := H
          by_cases c21 : t660 = true
          · subst c21
            replace H := ifT H
            by_cases c22 : t656 = true
            · subst c22
              replace H := ifT H; obtain ⟨t663, A23, H⟩ := bnd H
              by_cases c24 : t663 = true
              · subst c24
                replace H := ifT H
                by_cases c25 : t649 > 0
                · rw [if_pos c25] at H
                  have c25b0 : decide (0 < t649) = true := decide_eq_true c25; clear c25; obtain ⟨t664, A26, H⟩ := bnd H; obtain rfl := Option.some.inj H
                  go_wp2_with (first | ((with_reducible refine gate_callee (f := 12) rfl ?_); refine goesK (some 76) Try.func12 #[.slice Ao8 t640.length co8, .slice Ao9 t641.length co9, .int .i64 t649, .int .i64 t650] ?_; (with_reducible refine (impl_ConicAt.calls kj5 _ _ t640 _ _ t641 t649 t650 t655 true _ ?side1 ?side2 ?side3 ?side4 A19.out).mono ?_); (case side1 => exact U ((Kd.R_reads' HO_3.out).2.2)); (case side2 => exact (Kd.R_reads' HO_3.out).2.1); (case side3 => exact U ((Kd.R_reads' HO_4.out).2.2)); (case side4 => exact (Kd.R_reads' HO_4.out).2.1); rintro e w27 ⟨v657, rfl, ho0, hb⟩; refine ⟨_, rfl, ?_⟩; have HO658 := Aside0.mk (Kd.R_lower (Kd.R_new' (Kd.R_new' (Kd.R_new' ho0 (Kd.R_lt (U HO_3.out))) (Kd.R_lt (U HO_4.out))) (Kd.R_lt (U HO_5.out))) (below_size BU)); replace HO_3 := Aside0.mk (Kd.R_elder' (U HO_3.out) (Kd.R_base ho0) hb); replace HO_4 := Aside0.mk (Kd.R_elder' (U HO_4.out) (Kd.R_base ho0) hb); replace HO_5 := Aside0.mk (Kd.R_elder' (U HO_5.out) (Kd.R_base ho0) hb); replace HB := BS hb; (try clear hb); (try clear ho0)) | ((with_reducible refine gate_callee (f := 14) rfl ?_); refine goesK (some 82) Try.func14 #[.slice Ao8 t640.length co8, .slice Ao10 t642.length co10] ?_; (with_reducible refine (impl_ZeroPlain.calls kj5 _ _ t640 _ _ t642 t659 true _ ?side1 ?side2 ?side3 ?side4 A20.out).mono ?_); (case side1 => exact U ((Kd.R_reads' HO_3.out).2.2)); (case side2 => exact (Kd.R_reads' HO_3.out).2.1); (case side3 => exact U ((Kd.R_reads' HO_5.out).2.2)); (case side4 => exact (Kd.R_reads' HO_5.out).2.1); rintro e w28 ⟨v661, rfl, ho0, hb⟩; refine ⟨_, rfl, ?_⟩; have HO662 := Aside0.mk (Kd.R_lower (Kd.R_new' (Kd.R_new' (Kd.R_new' (Kd.R_new' ho0 (Kd.R_lt (U HO_3.out))) (Kd.R_lt (U HO_4.out))) (Kd.R_lt (U HO_5.out))) (Kd.R_lt (U HO658.out))) (below_size BU)); replace HO_3 := Aside0.mk (Kd.R_elder' (U HO_3.out) (Kd.R_base ho0) hb); replace HO_4 := Aside0.mk (Kd.R_elder' (U HO_4.out) (Kd.R_base ho0) hb); replace HO_5 := Aside0.mk (Kd.R_elder' (U HO_5.out) (Kd.R_base ho0) hb); replace HO658 := Aside0.mk (Kd.R_elder' (U HO658.out) (Kd.R_base ho0) hb); replace HB := BS hb; (try clear hb); (try clear ho0); obtain ⟨Ao29, co29, eo29⟩ := Kd.R_slice HO658.out; subst eo29; obtain ⟨Ao30, co30, eo30⟩ := Kd.R_slice HO662.out; subst eo30) | (go_at_call 15; (with_reducible refine (laws_sameInts.calls kj5 _ _ t655 _ _ t659 true _ ?side1 ?side2 ?side3 ?side4 A23.out).mono ?_); (case side1 => exact U ((Kd.R_reads' HO658.out).2.2)); (case side2 => exact (Kd.R_reads' HO658.out).2.1); (case side3 => exact U ((Kd.R_reads' HO662.out).2.2)); (case side4 => exact (Kd.R_reads' HO662.out).2.1); rintro e w' ⟨rfl, ⟨nd, rfl⟩⟩) | (go_at_call 22; (with_reducible refine (impl_GcdOf.calls kj5 t649 t650 t664 _ A26.out).mono ?_); rintro e w31 ⟨rfl, hb⟩; replace HO_3 := Aside0.mk (Kd.R_below (U HO_3.out) hb); replace HO_4 := Aside0.mk (Kd.R_below (U HO_4.out) hb); replace HO_5 := Aside0.mk (Kd.R_below (U HO_5.out) hb); replace HO658 := Aside0.mk (Kd.R_below (U HO658.out) hb); replace HO662 := Aside0.mk (Kd.R_below (U HO662.out) hb); replace HB := BS hb; (try clear hb)))
                  go_ret
                  exact ⟨eR, BU⟩
                · rw [if_neg c25] at H
                  have c25b0 : decide (0 < t649) = false := decide_eq_false c25; clear c25
                  by_cases c32 : t649 = 0
                  · rw [if_pos c32] at H
                    have c32b0 : (t649 == 0) = true := beq_iff_eq.mpr c32; have c32b1 : (t649 != 0) = false := bne_eq_false_iff_eq.mpr c32; clear c32
                    by_cases c33 : t650 > 0
                    · rw [if_pos c33] at H
                      have c33b0 : decide (0 < t650) = true := decide_eq_true c33; clear c33; obtain ⟨t665, A34, H⟩ := bnd H; obtain rfl := Option.some.inj H
                      go_wp2_with (first | ((with_reducible refine gate_callee (f := 12) rfl ?_); refine goesK (some 76) Try.func12 #[.slice Ao8 t640.length co8, .slice Ao9 t641.length co9, .int .i64 t649, .int .i64 t650] ?_; (with_reducible refine (impl_ConicAt.calls kj5 _ _ t640 _ _ t641 t649 t650 t655 true _ ?side1 ?side2 ?side3 ?side4 A19.out).mono ?_); (case side1 => exact U ((Kd.R_reads' HO_3.out).2.2)); (case side2 => exact (Kd.R_reads' HO_3.out).2.1); (case side3 => exact U ((Kd.R_reads' HO_4.out).2.2)); (case side4 => exact (Kd.R_reads' HO_4.out).2.1); rintro e w35 ⟨v657, rfl, ho0, hb⟩; refine ⟨_, rfl, ?_⟩; have HO658 := Aside0.mk (Kd.R_lower (Kd.R_new' (Kd.R_new' (Kd.R_new' ho0 (Kd.R_lt (U HO_3.out))) (Kd.R_lt (U HO_4.out))) (Kd.R_lt (U HO_5.out))) (below_size BU)); replace HO_3 := Aside0.mk (Kd.R_elder' (U HO_3.out) (Kd.R_base ho0) hb); replace HO_4 := Aside0.mk (Kd.R_elder' (U HO_4.out) (Kd.R_base ho0) hb); replace HO_5 := Aside0.mk (Kd.R_elder' (U HO_5.out) (Kd.R_base ho0) hb); replace HB := BS hb; (try clear hb); (try clear ho0)) | ((with_reducible refine gate_callee (f := 14) rfl ?_); refine goesK (some 82) Try.func14 #[.slice Ao8 t640.length co8, .slice Ao10 t642.length co10] ?_; (with_reducible refine (impl_ZeroPlain.calls kj5 _ _ t640 _ _ t642 t659 true _ ?side1 ?side2 ?side3 ?side4 A20.out).mono ?_); (case side1 => exact U ((Kd.R_reads' HO_3.out).2.2)); (case side2 => exact (Kd.R_reads' HO_3.out).2.1); (case side3 => exact U ((Kd.R_reads' HO_5.out).2.2)); (case side4 => exact (Kd.R_reads' HO_5.out).2.1); rintro e w36 ⟨v661, rfl, ho0, hb⟩; refine ⟨_, rfl, ?_⟩; have HO662 := Aside0.mk (Kd.R_lower (Kd.R_new' (Kd.R_new' (Kd.R_new' (Kd.R_new' ho0 (Kd.R_lt (U HO_3.out))) (Kd.R_lt (U HO_4.out))) (Kd.R_lt (U HO_5.out))) (Kd.R_lt (U HO658.out))) (below_size BU)); replace HO_3 := Aside0.mk (Kd.R_elder' (U HO_3.out) (Kd.R_base ho0) hb); replace HO_4 := Aside0.mk (Kd.R_elder' (U HO_4.out) (Kd.R_base ho0) hb); replace HO_5 := Aside0.mk (Kd.R_elder' (U HO_5.out) (Kd.R_base ho0) hb); replace HO658 := Aside0.mk (Kd.R_elder' (U HO658.out) (Kd.R_base ho0) hb); replace HB := BS hb; (try clear hb); (try clear ho0); obtain ⟨Ao37, co37, eo37⟩ := Kd.R_slice HO658.out; subst eo37; obtain ⟨Ao38, co38, eo38⟩ := Kd.R_slice HO662.out; subst eo38) | (go_at_call 15; (with_reducible refine (laws_sameInts.calls kj5 _ _ t655 _ _ t659 true _ ?side1 ?side2 ?side3 ?side4 A23.out).mono ?_); (case side1 => exact U ((Kd.R_reads' HO658.out).2.2)); (case side2 => exact (Kd.R_reads' HO658.out).2.1); (case side3 => exact U ((Kd.R_reads' HO662.out).2.2)); (case side4 => exact (Kd.R_reads' HO662.out).2.1); rintro e w' ⟨rfl, ⟨nd, rfl⟩⟩) | (go_at_call 22; (with_reducible refine (impl_GcdOf.calls kj5 t649 t650 t665 _ A34.out).mono ?_); rintro e w39 ⟨rfl, hb⟩; replace HO_3 := Aside0.mk (Kd.R_below (U HO_3.out) hb); replace HO_4 := Aside0.mk (Kd.R_below (U HO_4.out) hb); replace HO_5 := Aside0.mk (Kd.R_below (U HO_5.out) hb); replace HO658 := Aside0.mk (Kd.R_below (U HO658.out) hb); replace HO662 := Aside0.mk (Kd.R_below (U HO662.out) hb); replace HB := BS hb; (try clear hb)))
                      go_ret
                      exact ⟨eR, BU⟩
                    · rw [if_neg c33] at H
                      exact absurd H (by simp)
                  · rw [if_neg c32] at H
                    exact absurd H (by simp)
              · replace c24 := Bool.eq_false_iff.mpr c24
                subst c24; replace H := ifF H
                exact absurd H (by simp)
            · replace c22 := Bool.eq_false_iff.mpr c22
              subst c22; replace H := ifF H
              by_cases c40 : t649 > 0
              · rw [if_pos c40] at H
                have c40b0 : decide (0 < t649) = true := decide_eq_true c40; clear c40; obtain ⟨t666, A41, H⟩ := bnd H; obtain rfl := Option.some.inj H
                go_wp2_with (first | ((with_reducible refine gate_callee (f := 12) rfl ?_); refine goesK (some 76) Try.func12 #[.slice Ao8 t640.length co8, .slice Ao9 t641.length co9, .int .i64 t649, .int .i64 t650] ?_; (with_reducible refine (impl_ConicAt.calls kj5 _ _ t640 _ _ t641 t649 t650 t655 false _ ?side1 ?side2 ?side3 ?side4 A19.out).mono ?_); (case side1 => exact U ((Kd.R_reads' HO_3.out).2.2)); (case side2 => exact (Kd.R_reads' HO_3.out).2.1); (case side3 => exact U ((Kd.R_reads' HO_4.out).2.2)); (case side4 => exact (Kd.R_reads' HO_4.out).2.1); rintro e w42 ⟨v657, rfl, ho0, hb⟩; refine ⟨_, rfl, ?_⟩; have HO658 := Aside0.mk (Kd.R_lower (Kd.R_new' (Kd.R_new' (Kd.R_new' ho0 (Kd.R_lt (U HO_3.out))) (Kd.R_lt (U HO_4.out))) (Kd.R_lt (U HO_5.out))) (below_size BU)); replace HO_3 := Aside0.mk (Kd.R_elder' (U HO_3.out) (Kd.R_base ho0) hb); replace HO_4 := Aside0.mk (Kd.R_elder' (U HO_4.out) (Kd.R_base ho0) hb); replace HO_5 := Aside0.mk (Kd.R_elder' (U HO_5.out) (Kd.R_base ho0) hb); replace HB := BS hb; (try clear hb); (try clear ho0)) | ((with_reducible refine gate_callee (f := 14) rfl ?_); refine goesK (some 82) Try.func14 #[.slice Ao8 t640.length co8, .slice Ao10 t642.length co10] ?_; (with_reducible refine (impl_ZeroPlain.calls kj5 _ _ t640 _ _ t642 t659 true _ ?side1 ?side2 ?side3 ?side4 A20.out).mono ?_); (case side1 => exact U ((Kd.R_reads' HO_3.out).2.2)); (case side2 => exact (Kd.R_reads' HO_3.out).2.1); (case side3 => exact U ((Kd.R_reads' HO_5.out).2.2)); (case side4 => exact (Kd.R_reads' HO_5.out).2.1); rintro e w43 ⟨v661, rfl, ho0, hb⟩; refine ⟨_, rfl, ?_⟩; have HO662 := Aside0.mk (Kd.R_lower (Kd.R_new' (Kd.R_new' (Kd.R_new' (Kd.R_new' ho0 (Kd.R_lt (U HO_3.out))) (Kd.R_lt (U HO_4.out))) (Kd.R_lt (U HO_5.out))) (Kd.R_lt (U HO658.out))) (below_size BU)); replace HO_3 := Aside0.mk (Kd.R_elder' (U HO_3.out) (Kd.R_base ho0) hb); replace HO_4 := Aside0.mk (Kd.R_elder' (U HO_4.out) (Kd.R_base ho0) hb); replace HO_5 := Aside0.mk (Kd.R_elder' (U HO_5.out) (Kd.R_base ho0) hb); replace HO658 := Aside0.mk (Kd.R_elder' (U HO658.out) (Kd.R_base ho0) hb); replace HB := BS hb; (try clear hb); (try clear ho0)) | (go_at_call 22; (with_reducible refine (impl_GcdOf.calls kj5 t649 t650 t666 _ A41.out).mono ?_); rintro e w44 ⟨rfl, hb⟩; replace HO_3 := Aside0.mk (Kd.R_below (U HO_3.out) hb); replace HO_4 := Aside0.mk (Kd.R_below (U HO_4.out) hb); replace HO_5 := Aside0.mk (Kd.R_below (U HO_5.out) hb); replace HO658 := Aside0.mk (Kd.R_below (U HO658.out) hb); replace HO662 := Aside0.mk (Kd.R_below (U HO662.out) hb); replace HB := BS hb; (try clear hb)))
                go_ret
                exact ⟨eR, BU⟩
              · rw [if_neg c40] at H
                have c40b0 : decide (0 < t649) = false := decide_eq_false c40; clear c40
                by_cases c45 : t649 = 0
                · rw [if_pos c45] at H
                  have c45b0 : (t649 == 0) = true := beq_iff_eq.mpr c45; have c45b1 : (t649 != 0) = false := bne_eq_false_iff_eq.mpr c45; clear c45
                  by_cases c46 : t650 > 0
                  · rw [if_pos c46] at H
                    have c46b0 : decide (0 < t650) = true := decide_eq_true c46; clear c46; obtain ⟨t667, A47, H⟩ := bnd H; obtain rfl := Option.some.inj H
                    go_wp2_with (first | ((with_reducible refine gate_callee (f := 12) rfl ?_); refine goesK (some 76) Try.func12 #[.slice Ao8 t640.length co8, .slice Ao9 t641.length co9, .int .i64 t649, .int .i64 t650] ?_; (with_reducible refine (impl_ConicAt.calls kj5 _ _ t640 _ _ t641 t649 t650 t655 false _ ?side1 ?side2 ?side3 ?side4 A19.out).mono ?_); (case side1 => exact U ((Kd.R_reads' HO_3.out).2.2)); (case side2 => exact (Kd.R_reads' HO_3.out).2.1); (case side3 => exact U ((Kd.R_reads' HO_4.out).2.2)); (case side4 => exact (Kd.R_reads' HO_4.out).2.1); rintro e w48 ⟨v657, rfl, ho0, hb⟩; refine ⟨_, rfl, ?_⟩; have HO658 := Aside0.mk (Kd.R_lower (Kd.R_new' (Kd.R_new' (Kd.R_new' ho0 (Kd.R_lt (U HO_3.out))) (Kd.R_lt (U HO_4.out))) (Kd.R_lt (U HO_5.out))) (below_size BU)); replace HO_3 := Aside0.mk (Kd.R_elder' (U HO_3.out) (Kd.R_base ho0) hb); replace HO_4 := Aside0.mk (Kd.R_elder' (U HO_4.out) (Kd.R_base ho0) hb); replace HO_5 := Aside0.mk (Kd.R_elder' (U HO_5.out) (Kd.R_base ho0) hb); replace HB := BS hb; (try clear hb); (try clear ho0)) | ((with_reducible refine gate_callee (f := 14) rfl ?_); refine goesK (some 82) Try.func14 #[.slice Ao8 t640.length co8, .slice Ao10 t642.length co10] ?_; (with_reducible refine (impl_ZeroPlain.calls kj5 _ _ t640 _ _ t642 t659 true _ ?side1 ?side2 ?side3 ?side4 A20.out).mono ?_); (case side1 => exact U ((Kd.R_reads' HO_3.out).2.2)); (case side2 => exact (Kd.R_reads' HO_3.out).2.1); (case side3 => exact U ((Kd.R_reads' HO_5.out).2.2)); (case side4 => exact (Kd.R_reads' HO_5.out).2.1); rintro e w49 ⟨v661, rfl, ho0, hb⟩; refine ⟨_, rfl, ?_⟩; have HO662 := Aside0.mk (Kd.R_lower (Kd.R_new' (Kd.R_new' (Kd.R_new' (Kd.R_new' ho0 (Kd.R_lt (U HO_3.out))) (Kd.R_lt (U HO_4.out))) (Kd.R_lt (U HO_5.out))) (Kd.R_lt (U HO658.out))) (below_size BU)); replace HO_3 := Aside0.mk (Kd.R_elder' (U HO_3.out) (Kd.R_base ho0) hb); replace HO_4 := Aside0.mk (Kd.R_elder' (U HO_4.out) (Kd.R_base ho0) hb); replace HO_5 := Aside0.mk (Kd.R_elder' (U HO_5.out) (Kd.R_base ho0) hb); replace HO658 := Aside0.mk (Kd.R_elder' (U HO658.out) (Kd.R_base ho0) hb); replace HB := BS hb; (try clear hb); (try clear ho0)) | (go_at_call 22; (with_reducible refine (impl_GcdOf.calls kj5 t649 t650 t667 _ A47.out).mono ?_); rintro e w50 ⟨rfl, hb⟩; replace HO_3 := Aside0.mk (Kd.R_below (U HO_3.out) hb); replace HO_4 := Aside0.mk (Kd.R_below (U HO_4.out) hb); replace HO_5 := Aside0.mk (Kd.R_below (U HO_5.out) hb); replace HO658 := Aside0.mk (Kd.R_below (U HO658.out) hb); replace HO662 := Aside0.mk (Kd.R_below (U HO662.out) hb); replace HB := BS hb; (try clear hb)))
                    go_ret
                    exact ⟨eR, BU⟩
                  · rw [if_neg c46] at H
                    exact absurd H (by simp)
                · rw [if_neg c45] at H
                  exact absurd H (by simp)
          · replace c21 := Bool.eq_false_iff.mpr c21
            subst c21; replace H := ifF H
            exact absurd H (by simp)

/-- THE ONE PURE STATEMENT of laws_FnConicBack: yours. -/
def laws_FnConicBack.Pure : Prop := ∀ (l0 : List Int), l0.length ≤ maxLen → l0.length * 1 ≤ 140737488351232 → (∀ x ∈ l0, (Lit.int .u8 x).wf = true) → ∃ k, laws_FnConicBack.f k l0 = some true
theorem laws_FnConicBack.walk (P : laws_FnConicBack.Pure) (a0 : Option Addr) (len0 cap0 : Nat) (z0 : List Int) (w : World) (w0 : (a0 = none ∧ len0 = 0 ∧ cap0 = 0 ∧ z0 = []) ∨ ∃ x, a0 = some x ∧ len0 ≤ cap0 ∧ cap0 ≤ maxLen ∧ z0.length = cap0 ∧ (∀ i, i < z0.length → w.cell? (x.add i) = some (.int .u8 (z0.getD i 0))) ∧ ∀ n ∈ z0, (Lit.int .u8 n).wf = true) (y0 : len0 * 1 ≤ 140737488351232) :
    Calls Try.prog 6 #[.slice a0 len0 cap0] w fun e w' => e = .returned (.bool true) ∧ Below w.heap.size w w' := by
  obtain ⟨l0, rfl, hr0, hm0, hw0, hc0⟩ := ReadsInt.ofRowC w0
  obtain ⟨k, h⟩ := P l0 hm0 y0 hw0
  refine (laws_FnConicBack.calls k _ _ l0 true w (Kd.C_of_reads (d := (0 : Int)) (h1 := fun _ => rfl) hr0) hc0 h).mono ?_
  rintro e w' ⟨rfl, hd⟩
  exact ⟨rfl, hd⟩

end Go.Proofs.Ytpaohkhmhdhibaa.PFnConicBack
