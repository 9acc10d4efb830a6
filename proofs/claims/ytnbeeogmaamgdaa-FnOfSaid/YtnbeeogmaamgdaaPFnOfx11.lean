-- Written by a program of this session (wip/print2.py): the functions that the law reaches, plain, and the walks.
import Derived.Test.YtnbeeogmaamgdaaPFnOfx0
import Derived.Test.YtnbeeogmaamgdaaPFnOfx10
namespace Go.Proofs.Ytnbeeogmaamgdaa.PFnOf
open Go.RowKit Go.Proofs.YtnbeeogmaamgdaaW.PrintWords Go.Proofs.YtnbeeogmaamgdaaW.PrintLast Go.Proofs.YtnbeeogmaamgdaaW.PrintMore
attribute [local go_sem] max2_int min2_int max_two min_two max_three min_three max_four min_four   -- for this text's walks alone
set_option linter.unusedVariables false
set_option linter.unusedSimpArgs false

/-! ### spec_l7Shape: function 82 -/
mutual
def spec_l7Shape.j0 : Nat → List Int → Bool → List (List Int) → Int → Option (Bool)
  | 0, _, _, _, _ => none
  | k + 1, x0, x24, x381000, x381001 => if x24 = true then (some false) else (spec_l7Shape.l0 k x0 x381001 0 x381000 x381001)
def spec_l7Shape.l0 : Nat → List Int → Int → Int → List (List Int) → Int → Option (Bool)
  | 0, _, _, _, _, _ => none
  | k + 1, x0, x5, x6, x381000, x381001 => if x6 < (x381000.length : Int) then (if 0 ≤ x6 then (if ((rd_L1 x381000 x6).length : Int) = (x0.length : Int) then (spec_l7Shape.l1 k x0 x5 x6 0 x381000 x381001) else (some false)) else (none)) else (some (x5 == 1))
def spec_l7Shape.l1 : Nat → List Int → Int → Int → Int → List (List Int) → Int → Option (Bool)
  | 0, _, _, _, _, _, _ => none
  | k + 1, x0, x5, x6, x7, x381000, x381001 => if x7 < (x0.length : Int) then (if 0 ≤ x6 then (if x6 < (x381000.length : Int) then (if 0 ≤ x7 then (if x7 < ((rd_L1 x381000 x6).length : Int) then ((spec_l6In.f (rd (rd_L1 x381000 x6) x7) (-1000000) 1000000).bind fun t386 => (if t386 = true then ((spec_l1Gcd.f k x5 (rd (rd_L1 x381000 x6) x7)).bind fun t389 => (spec_l7Shape.l1 k x0 t389 x6 (wrap64 (x7 + 1)) x381000 x381001)) else (some false))) else (none)) else (none)) else (none)) else (none)) else (spec_l7Shape.l0 k x0 x5 (wrap64 (x6 + 1)) x381000 x381001)
end
def spec_l7Shape.f (k : Nat) (l0 : List Int) (l1_0 : List (List Int)) (a1_1 : Int) : Option (Bool) := (spec_l7Form.f k l0).bind fun t381 => (if t381 = true then (if (l1_0.length : Int) = (l0.length : Int) then ((spec_l6In.f a1_1 1 10000).bind fun t382 => (spec_l7Shape.j0 k l0 (!t382) l1_0 a1_1)) else (spec_l7Shape.j0 k l0 true l1_0 a1_1)) else (spec_l7Shape.j0 k l0 true l1_0 a1_1))
theorem spec_l7Shape.mono_l : ∀ k, (∀ y0 y1 y2 y3, LeO (spec_l7Shape.j0 k y0 y1 y2 y3) (spec_l7Shape.j0 (k + 1) y0 y1 y2 y3)) ∧ (∀ y0 y1 y2 y3 y4, LeO (spec_l7Shape.l0 k y0 y1 y2 y3 y4) (spec_l7Shape.l0 (k + 1) y0 y1 y2 y3 y4)) ∧ (∀ y0 y1 y2 y3 y4 y5, LeO (spec_l7Shape.l1 k y0 y1 y2 y3 y4 y5) (spec_l7Shape.l1 (k + 1) y0 y1 y2 y3 y4 y5))
  | 0 => ⟨fun _ _ _ _ r h => by simp [spec_l7Shape.j0] at h, fun _ _ _ _ _ r h => by simp [spec_l7Shape.l0] at h, fun _ _ _ _ _ _ r h => by simp [spec_l7Shape.l1] at h⟩
  | k + 1 => by
    obtain ⟨ih0, ih1, ih2⟩ := spec_l7Shape.mono_l k
    refine ⟨?_, ?_, ?_⟩ <;> intros <;> (first | unfold spec_l7Shape.j0 | unfold spec_l7Shape.l0 | unfold spec_l7Shape.l1) <;> (repeat' first
      | (with_reducible exact ih0 _ _ _ _)
      | (with_reducible exact ih1 _ _ _ _ _)
      | (with_reducible exact ih2 _ _ _ _ _ _)
      | (with_reducible exact spec_l1Gcd.mono _ _ _)
      | (with_reducible exact spec_l7Form.mono _ _)
      | (with_reducible exact LeO.refl _)
      | (with_reducible exact LeO.none _)
      | (with_reducible refine LeO.ite ?_ ?_)
      | (with_reducible refine LeO.bind ?_ (fun _ => ?_))
      | exact ih0 _ _ _ _
      | exact ih1 _ _ _ _ _
      | exact ih2 _ _ _ _ _ _
      | exact spec_l1Gcd.mono _ _ _
      | exact spec_l7Form.mono _ _
      | exact LeO.none _
      | refine LeO.ite ?_ ?_
      | refine LeO.bind ?_ (fun _ => ?_))
theorem spec_l7Shape.mono : ∀ a0 a1 a2 k, LeO (spec_l7Shape.f k a0 a1 a2) (spec_l7Shape.f (k + 1) a0 a1 a2) := by
  intro a0 a1 a2 k
  obtain ⟨ih0, ih1, ih2⟩ := spec_l7Shape.mono_l k
  unfold spec_l7Shape.f
  repeat' first
      | (with_reducible exact ih0 _ _ _ _)
      | (with_reducible exact ih1 _ _ _ _ _)
      | (with_reducible exact ih2 _ _ _ _ _ _)
      | (with_reducible exact spec_l1Gcd.mono _ _ _)
      | (with_reducible exact spec_l7Form.mono _ _)
      | (with_reducible exact LeO.refl _)
      | (with_reducible exact LeO.none _)
      | (with_reducible refine LeO.ite ?_ ?_)
      | (with_reducible refine LeO.bind ?_ (fun _ => ?_))
      | exact ih0 _ _ _ _
      | exact ih1 _ _ _ _ _
      | exact ih2 _ _ _ _ _ _
      | exact spec_l1Gcd.mono _ _ _
      | exact spec_l7Form.mono _ _
      | exact LeO.none _
      | refine LeO.ite ?_ ?_
      | refine LeO.bind ?_ (fun _ => ?_)
set_option maxHeartbeats 8000000 in
set_option maxRecDepth 100000 in
theorem spec_l7Shape.calls (k : Nat) (A0 : Option Addr) (c0 : Nat) (l0 : List Int) (A1_0 : Option Addr) (c1_0 : Nat) (l1_0 : List (List Int)) (a1_1 : Int) (r : Bool) (w : World) (hr0 : Kd.C (Kd.int .i64) w A0 l0.length l0) (hc0 : l0.length ≤ c0) (hr1_0 : Kd.C (Kd.slice 3 (Kd.int .i64)) w A1_0 l1_0.length l1_0) (hc1_0 : l1_0.length ≤ c1_0) (h : spec_l7Shape.f k l0 l1_0 a1_1 = some r) :
    Calls Try.prog 82 #[.slice A0 l0.length c0, .agg #[.slice A1_0 l1_0.length c1_0, .int .i64 a1_1]] w fun e w' => e = .returned (.bool r) ∧ Below w.heap.size w w' := by
  have hu27 := Try.underlying27; have HR0 := Aside0.mk hr0; have HC0 := Aside0.mk hc0; clear hr0 hc0; have HR1_0 := Aside0.mk hr1_0; have HC1_0 := Aside0.mk hc1_0; clear hr1_0 hc1_0; have HB := Aside0.mk (Below.refl w.heap.size w); unfold spec_l7Shape.f at h; have H := h; clear h; have HC3 := Aside0.mk H; clear H; go_enter Try.func82, Try.ntmps82
  go_upto_region 1 with (first | ((with_reducible refine gate_dst (N := 3) rfl ?_); (try (refine gate_guard (by rfl) ?_; dsimp only)); refine boxE (N := 3) (cs := #[.slice A1_0 l1_0.length c1_0, .int .i64 a1_1]) (t := 27) ?_; intro gb380 hg w4 hbox hb; have BK380 := Aside0.mk (hbox); have GW380 := GS w hg; have GE380 := GS w hg; replace HB := BS hb; clear hb hbox hg))
  (try simp only [Act.put, List.setIfInBounds_toArray, List.set_cons_zero, List.set_cons_succ])
  go_cut [24] (fun v24 wc => ∃ (kq : Nat) (x24_2 : Bool), v24 = .bool x24_2 ∧ Aside0 (spec_l7Shape.j0 kq l0 x24_2 l1_0 a1_1 = some r) ∧ Aside0 (kq ≤ k) ∧ Aside0 (wc.heap[gb380]? = some (.cells #[(.slice A1_0 l1_0.length c1_0), .int .i64 a1_1] 27 (0, 0))) ∧ Aside0 (Below w.heap.size w wc))
  case first =>
    have H := HC3.out; clear HC3; obtain ⟨t381, A5, H⟩ := bnd H
    by_cases c6 : t381 = true
    · subst c6
      replace H := ifT H
      by_cases c7 : (l1_0.length : Int) = (l0.length : Int)
      · rw [if_pos c7] at H
        have c7b0 : ((l1_0.length : Int) == (l0.length : Int)) = true := beq_iff_eq.mpr c7; have c7b1 : ((l1_0.length : Int) != (l0.length : Int)) = false := bne_eq_false_iff_eq.mpr c7
        have c7b2 : (l1_0.length == l0.length) = true := by first | simpa using c7 | (simp at c7 ⊢; omega)
        clear c7
        (first | rw [c7b0] | (simp only [i64_w, i32_w]; rw [c7b0]) | skip)
        obtain ⟨t382, A8, H⟩ := bnd H; have H' := Aside0.mk H; clear H
        go_wp2_with (first | ((with_reducible refine gate_callee (f := 54) rfl ?_); refine goesK (some 9) Try.func54 #[.slice A0 l0.length c0] ?_; (with_reducible refine (spec_l7Form.calls k _ _ l0 true _ ?side1 ?side2 A5.out).mono ?_); (case side1 => exact U (Kd.C_below HR0.out HB.out)); (case side2 => exact HC0.out); rintro e w' ⟨rfl, ⟨nd, rfl⟩⟩; refine ⟨_, rfl, ?_⟩; obtain ⟨hcz9_0, hcz9_1, hfz9_0, hfz9_1⟩ := bcf BK380) | (go_at_call 86; (with_reducible refine (spec_l6In.calls a1_1 1 10000 t382 _ A8.out).mono ?_); rintro e w' ⟨rfl, ⟨nd, rfl⟩⟩))
        go_meet
        case rel => exact ⟨_, (!t382), sR, H', ⟨oR⟩, ⟨U BK380.out⟩, ⟨BU⟩⟩
      rw [if_neg c7] at H; have c7b0 : ((l1_0.length : Int) == (l0.length : Int)) = false := beq_eq_false_iff_ne.mpr c7; have c7b1 : ((l1_0.length : Int) != (l0.length : Int)) = true := bne_iff_ne.mpr c7
      have c7b2 : (l1_0.length == l0.length) = false := by first | simpa using c7 | (simp at c7 ⊢; omega)
      (first | rw [c7b0] | (simp only [i64_w, i32_w]; rw [c7b0]) | skip)
      have H' := Aside0.mk H; clear H
      go_wp2_with (first | ((with_reducible refine gate_callee (f := 54) rfl ?_); refine goesK (some 9) Try.func54 #[.slice A0 l0.length c0] ?_; (with_reducible refine (spec_l7Form.calls k _ _ l0 true _ ?side1 ?side2 A5.out).mono ?_); (case side1 => exact U (Kd.C_below HR0.out HB.out)); (case side2 => exact HC0.out); rintro e w' ⟨rfl, ⟨nd, rfl⟩⟩; refine ⟨_, rfl, ?_⟩; obtain ⟨hcz10_0, hcz10_1, hfz10_0, hfz10_1⟩ := bcf BK380))
      go_meet
      case rel => exact ⟨_, (true), sR, H', ⟨oR⟩, ⟨U BK380.out⟩, ⟨BU⟩⟩
    replace c6 := Bool.eq_false_iff.mpr c6; subst c6; replace H := ifF H; have H' := Aside0.mk H; clear H
    go_wp2_with (first | ((with_reducible refine gate_callee (f := 54) rfl ?_); refine goesK (some 9) Try.func54 #[.slice A0 l0.length c0] ?_; (with_reducible refine (spec_l7Form.calls k _ _ l0 false _ ?side1 ?side2 A5.out).mono ?_); (case side1 => exact U (Kd.C_below HR0.out HB.out)); (case side2 => exact HC0.out); rintro e w' ⟨rfl, ⟨nd, rfl⟩⟩; refine ⟨_, rfl, ?_⟩))
    go_meet
    case rel => exact ⟨_, (true), sR, H', ⟨oR⟩, ⟨U BK380.out⟩, ⟨BU⟩⟩
  case rest =>
    clear HC3; obtain ⟨kq, x24_2, rfl, HA, HJ2, BK380, HB⟩ := hcut; cases kq with
    | zero => exact absurd HA.out (by simp [spec_l7Shape.j0])
    | succ kj2 =>
      have H := HA.out; clear HA; simp only [spec_l7Shape.j0] at H
      by_cases c11 : x24_2 = true
      · subst c11
        replace H := ifT H; obtain rfl := Option.some.inj H
        go_wp2
        go_ret
        exact ⟨eR, BU⟩
      replace c11 := Bool.eq_false_iff.mpr c11; subst c11; replace H := ifF H; have H' := Aside0.mk H; clear H; obtain ⟨hcz12_0, hcz12_1, hfz12_0, hfz12_1⟩ := bcf BK380
      go_wp2
      go_loopg [5, 6] kj2 (fun kq v5 v6 w' => ∃ (x5_2 : Int) (x6_2 : Int), v5 = .int .i64 x5_2 ∧ v6 = .int .i64 x6_2 ∧ Aside0 (spec_l7Shape.l0 kq l0 x5_2 x6_2 l1_0 a1_1 = some r) ∧ Aside0 (kq ≤ kj2) ∧ Aside0 (w'.heap[gb380]? = some (.cells #[(.slice A1_0 l1_0.length c1_0), .int .i64 a1_1] 27 (0, 0))) ∧ Aside0 (Below w.heap.size w w'))
      case atStart => exact ⟨(a1_1), (0), sR, sR, H', ⟨Nat.le_refl _⟩, ⟨U BK380.out⟩, ⟨BU⟩⟩
      case round =>
        clear H'; (try clear c11); (try clear hcz12_0); (try clear hcz12_1); (try clear hfz12_0); (try clear hfz12_1); obtain ⟨x5_2, x6_2, rfl, rfl, HA, HK2, BK380, HB⟩ := hrel; cases gk with
        | zero => exact absurd HA.out (by simp [spec_l7Shape.l0])
        | succ k2 =>
          have H := HA.out; clear HA; simp only [spec_l7Shape.l0] at H
          by_cases c13 : x6_2 < (l1_0.length : Int)
          · rw [if_pos c13] at H
            have c13b0 : decide (x6_2 < (l1_0.length : Int)) = true := decide_eq_true c13; clear c13; obtain ⟨c14, H⟩ := ifN H; have c14b0 : decide (0 ≤ x6_2) = true := decide_eq_true c14; clear c14
            by_cases c15 : ((rd_L1 l1_0 x6_2).length : Int) = (l0.length : Int)
            · rw [if_pos c15] at H
              have c15b0 : (((rd_L1 l1_0 x6_2).length : Int) == (l0.length : Int)) = true := beq_iff_eq.mpr c15; have c15b1 : (((rd_L1 l1_0 x6_2).length : Int) != (l0.length : Int)) = false := bne_eq_false_iff_eq.mpr c15
              have c15b2 : ((rd_L1 l1_0 x6_2).length == l0.length) = true := by first | simpa using c15 | (simp at c15 ⊢; omega)
              clear c15; have H' := Aside0.mk H; clear H; obtain ⟨hcz16_0, hcz16_1, hfz16_0, hfz16_1⟩ := bcf BK380; have p383 : 0 ≤ (x6_2 : Int) := oD; have q383 : x6_2 < (l1_0.length : Int) := oD; obtain ⟨ad383, A383_0, c383_0, e383, hx383_0, hl383_0, hi383_0⟩ := at_L1 HR1_0.out x6_2 p383 q383; cases e383; replace hx383_0 := (HB.out.cell (World.block_lt_of_cell? w _ hx383_0)).trans hx383_0; have HR383_0 := Aside0.mk hi383_0; have HC383_0 := Aside0.mk hl383_0; clear hi383_0 hl383_0; replace p383 := eq_true p383; replace q383 := eq_true q383
              go_wp2
              go_loopg [5, 7] k2 (fun kq v5 v7 w' => ∃ (x5_3 : Int) (x7_3 : Int), v5 = .int .i64 x5_3 ∧ v7 = .int .i64 x7_3 ∧ Aside0 (spec_l7Shape.l1 kq l0 x5_3 x6_2 x7_3 l1_0 a1_1 = some r) ∧ Aside0 (kq ≤ k2) ∧ Aside0 (w'.heap[gb380]? = some (.cells #[(.slice (some ad383) l1_0.length c1_0), .int .i64 a1_1] 27 (0, 0))) ∧ Aside0 (Below w.heap.size w w'))
              case atStart => exact ⟨(x5_2), (0), sR, sR, H', ⟨Nat.le_refl _⟩, ⟨U BK380.out⟩, ⟨BU⟩⟩
              case round =>
                clear H'; (try clear c11); (try clear c13); (try clear c13b0); (try clear c14); (try clear c14b0); (try clear c15); (try clear c15b0); (try clear c15b1); (try clear c15b2); (try clear hcz12_0); (try clear hcz12_1); (try clear hcz16_0); (try clear hcz16_1); (try clear hfz12_0); (try clear hfz12_1); (try clear hfz16_0); (try clear hfz16_1); (try clear hx383_0); (try clear p383); (try clear q383); obtain ⟨x5_3, x7_3, rfl, rfl, HA, HK3, BK380, HB⟩ := hrel; cases gk with
                | zero => exact absurd HA.out (by simp [spec_l7Shape.l1])
                | succ k3 =>
                  have H := HA.out; clear HA; simp only [spec_l7Shape.l1] at H
                  by_cases c17 : x7_3 < (l0.length : Int)
                  · rw [if_pos c17] at H
                    have c17b0 : decide (x7_3 < (l0.length : Int)) = true := decide_eq_true c17; clear c17; obtain ⟨c18, H⟩ := ifN H; have c18b0 : decide (0 ≤ x6_2) = true := decide_eq_true c18; clear c18; obtain ⟨c19, H⟩ := ifN H; have c19b0 : decide (x6_2 < (l1_0.length : Int)) = true := decide_eq_true c19; clear c19; obtain ⟨c20, H⟩ := ifN H; have c20b0 : decide (0 ≤ x7_3) = true := decide_eq_true c20; clear c20; obtain ⟨c21, H⟩ := ifN H; have c21b0 : decide (x7_3 < ((rd_L1 l1_0 x6_2).length : Int)) = true := decide_eq_true c21; clear c21; obtain ⟨t386, A22, H⟩ := bnd H
                    by_cases c23 : t386 = true
                    · subst c23
                      replace H := ifT H; obtain ⟨t389, A24, H⟩ := bnd H; have H' := Aside0.mk H; clear H; obtain ⟨hcz25_0, hcz25_1, hfz25_0, hfz25_1⟩ := bcf BK380; have p384 : 0 ≤ (x6_2 : Int) := oD; have q384 : x6_2 < (l1_0.length : Int) := oD; obtain ⟨ad384, A384_0, c384_0, e384, hx384_0, hl384_0, hi384_0⟩ := at_L1 HR1_0.out x6_2 p384 q384; obtain rfl : ad383 = ad384 := (by injection e384); replace hx384_0 := (HB.out.cell (World.block_lt_of_cell? w _ hx384_0)).trans hx384_0; have HR384_0 := Aside0.mk hi384_0; have HC384_0 := Aside0.mk hl384_0; clear hi384_0 hl384_0; replace p384 := eq_true p384; replace q384 := eq_true q384; have p385 : 0 ≤ (x7_3 : Int) := oD; have q385 : x7_3 < ((rd_L1 l1_0 x6_2).length : Int) := oD; obtain ⟨ad385, e385, hx385_0⟩ := Kd.at_int HR384_0.out x7_3 p385 q385; cases e385; replace hx385_0 := (HB.out.cell (World.block_lt_of_cell? w _ hx385_0)).trans hx385_0; replace p385 := eq_true p385; replace q385 := eq_true q385
                      go_wp2_with (first | ((with_reducible refine gate_callee (f := 86) rfl ?_); refine goesK (some 57) Try.func86 #[.int .i64 (rd (rd_L1 l1_0 x6_2) x7_3), .int .i64 (-1000000), .int .i64 1000000] ?_; (with_reducible refine (spec_l6In.calls (rd (rd_L1 l1_0 x6_2) x7_3) (-1000000) 1000000 true _ A22.out).mono ?_); rintro e w' ⟨rfl, ⟨nd, rfl⟩⟩; refine ⟨_, rfl, ?_⟩; have p387 : 0 ≤ (x6_2 : Int) := oD; have q387 : x6_2 < (l1_0.length : Int) := oD; obtain ⟨ad387, A387_0, c387_0, e387, hx387_0, hl387_0, hi387_0⟩ := at_L1 HR1_0.out x6_2 p387 q387; obtain rfl : ad383 = ad387 := (by injection e387); replace hx387_0 := (HB.out.cell (World.block_lt_of_cell? w _ hx387_0)).trans hx387_0; have HR387_0 := Aside0.mk hi387_0; have HC387_0 := Aside0.mk hl387_0; clear hi387_0 hl387_0; replace p387 := eq_true p387; replace q387 := eq_true q387; have ea_ := Option.some.inj (hx384_0.symm.trans hx387_0); injection ea_ with ea_ en_ ec_; subst ea_; subst ec_; clear en_; have p388 : 0 ≤ (x7_3 : Int) := oD; have q388 : x7_3 < ((rd_L1 l1_0 x6_2).length : Int) := oD; obtain ⟨ad388, e388, hx388_0⟩ := Kd.at_int HR387_0.out x7_3 p388 q388; cases e388; replace hx388_0 := (HB.out.cell (World.block_lt_of_cell? w _ hx388_0)).trans hx388_0; replace p388 := eq_true p388; replace q388 := eq_true q388) | ((with_reducible refine gate_callee (f := 87) rfl ?_); refine goesK (some 68) Try.func87 #[.int .i64 x5_3, .int .i64 (rd (rd_L1 l1_0 x6_2) x7_3)] ?_; (with_reducible refine (spec_l1Gcd.calls k3 x5_3 (rd (rd_L1 l1_0 x6_2) x7_3) t389 _ A24.out).mono ?_); rintro e w26 ⟨rfl, hb⟩; refine ⟨_, rfl, ?_⟩; replace BK380 := bB BK380 hb; replace HB := BS hb; (try clear hb)))
                      go_roundg k3
                      case measure => have := HJ2.out; have := HK2.out; have := HK3.out; omega
                      case rel => exact ⟨(t389), (wrap64 (x7_3 + 1)), sR, sR, H', ⟨by have := HJ2.out; have := HK2.out; have := HK3.out; omega⟩, ⟨U BK380.out⟩, ⟨BU⟩⟩
                    replace c23 := Bool.eq_false_iff.mpr c23; subst c23; replace H := ifF H; obtain rfl := Option.some.inj H; obtain ⟨hcz27_0, hcz27_1, hfz27_0, hfz27_1⟩ := bcf BK380; have p384 : 0 ≤ (x6_2 : Int) := oD; have q384 : x6_2 < (l1_0.length : Int) := oD; obtain ⟨ad384, A384_0, c384_0, e384, hx384_0, hl384_0, hi384_0⟩ := at_L1 HR1_0.out x6_2 p384 q384; obtain rfl : ad383 = ad384 := (by injection e384); replace hx384_0 := (HB.out.cell (World.block_lt_of_cell? w _ hx384_0)).trans hx384_0; have HR384_0 := Aside0.mk hi384_0; have HC384_0 := Aside0.mk hl384_0; clear hi384_0 hl384_0; replace p384 := eq_true p384; replace q384 := eq_true q384; have p385 : 0 ≤ (x7_3 : Int) := oD; have q385 : x7_3 < ((rd_L1 l1_0 x6_2).length : Int) := oD; obtain ⟨ad385, e385, hx385_0⟩ := Kd.at_int HR384_0.out x7_3 p385 q385; cases e385; replace hx385_0 := (HB.out.cell (World.block_lt_of_cell? w _ hx385_0)).trans hx385_0; replace p385 := eq_true p385; replace q385 := eq_true q385
                    go_wp2_with (first | ((with_reducible refine gate_callee (f := 86) rfl ?_); refine goesK (some 57) Try.func86 #[.int .i64 (rd (rd_L1 l1_0 x6_2) x7_3), .int .i64 (-1000000), .int .i64 1000000] ?_; (with_reducible refine (spec_l6In.calls (rd (rd_L1 l1_0 x6_2) x7_3) (-1000000) 1000000 false _ A22.out).mono ?_); rintro e w' ⟨rfl, ⟨nd, rfl⟩⟩; refine ⟨_, rfl, ?_⟩))
                    go_ret
                    exact ⟨eR, BU⟩
                  rw [if_neg c17] at H; have c17b0 : decide (x7_3 < (l0.length : Int)) = false := decide_eq_false c17; clear c17; have H' := Aside0.mk H; clear H
                  go_wp2
                  go_roundg k3
                  case measure => have := HJ2.out; have := HK2.out; have := HK3.out; omega
                  case rel => exact ⟨(x5_3), (wrap64 (x6_2 + 1)), sR, sR, H', ⟨by have := HJ2.out; have := HK2.out; have := HK3.out; omega⟩, ⟨U BK380.out⟩, ⟨BU⟩⟩
            rw [if_neg c15] at H; have c15b0 : (((rd_L1 l1_0 x6_2).length : Int) == (l0.length : Int)) = false := beq_eq_false_iff_ne.mpr c15; have c15b1 : (((rd_L1 l1_0 x6_2).length : Int) != (l0.length : Int)) = true := bne_iff_ne.mpr c15
            have c15b2 : ((rd_L1 l1_0 x6_2).length == l0.length) = false := by first | simpa using c15 | (simp at c15 ⊢; omega)
            obtain rfl := Option.some.inj H; obtain ⟨hcz28_0, hcz28_1, hfz28_0, hfz28_1⟩ := bcf BK380; have p383 : 0 ≤ (x6_2 : Int) := oD; have q383 : x6_2 < (l1_0.length : Int) := oD; obtain ⟨ad383, A383_0, c383_0, e383, hx383_0, hl383_0, hi383_0⟩ := at_L1 HR1_0.out x6_2 p383 q383; cases e383; replace hx383_0 := (HB.out.cell (World.block_lt_of_cell? w _ hx383_0)).trans hx383_0; have HR383_0 := Aside0.mk hi383_0; have HC383_0 := Aside0.mk hl383_0; clear hi383_0 hl383_0; replace p383 := eq_true p383; replace q383 := eq_true q383
            go_wp2
            go_ret
            exact ⟨eR, BU⟩
          rw [if_neg c13] at H; have c13b0 : decide (x6_2 < (l1_0.length : Int)) = false := decide_eq_false c13; clear c13; obtain rfl := Option.some.inj H; obtain ⟨hcz29_0, hcz29_1, hfz29_0, hfz29_1⟩ := bcf BK380
          go_wp2
          go_ret
          exact ⟨eR, BU⟩

/-! ### spec_MoveValid: function 41 -/
mutual
def spec_MoveValid.l0 : Nat → List Int → Int → List (List Int) → Int → Option (Bool)
  | 0, _, _, _, _ => none
  | k + 1, x0, x5, x391000, x391001 => if x5 < (x0.length : Int) then (spec_MoveValid.l1 k x0 x5 0 x391000 x391001) else (some true)
def spec_MoveValid.l1 : Nat → List Int → Int → Int → List (List Int) → Int → Option (Bool)
  | 0, _, _, _, _, _ => none
  | k + 1, x0, x5, x6, x391000, x391001 => if x6 ≤ x5 then (spec_MoveValid.l2 k x0 x5 x6 0 0 x391000 x391001) else (spec_MoveValid.l0 k x0 (wrap64 (x5 + 1)) x391000 x391001)
def spec_MoveValid.l2 : Nat → List Int → Int → Int → Int → Int → List (List Int) → Int → Option (Bool)
  | 0, _, _, _, _, _, _, _ => none
  | k + 1, x0, x5, x6, x7, x8, x391000, x391001 => if x8 < (x0.length : Int) then (if 0 ≤ x8 then (if x8 < (x391000.length : Int) then (if 0 ≤ x5 then (if x5 < ((rd_L1 x391000 x8).length : Int) then (if 0 ≤ x6 then (if x6 < ((rd_L1 x391000 x8).length : Int) then (spec_MoveValid.l2 k x0 x5 x6 (wrap64 (x7 + (wrap64 ((wrap64 ((rd x0 x8) * (rd (rd_L1 x391000 x8) x5))) * (rd (rd_L1 x391000 x8) x6))))) (wrap64 (x8 + 1)) x391000 x391001) else (none)) else (none)) else (none)) else (none)) else (none)) else (none)) else (if x5 = x6 then (if 0 ≤ x5 then (if x5 < (x0.length : Int) then (if x7 = (wrap64 ((wrap64 ((rd x0 x5) * x391001)) * x391001)) then (spec_MoveValid.l1 k x0 x5 (wrap64 (x6 + 1)) x391000 x391001) else (some false)) else (none)) else (none)) else (if x7 = 0 then (spec_MoveValid.l1 k x0 x5 (wrap64 (x6 + 1)) x391000 x391001) else (some false)))
end
def spec_MoveValid.f (k : Nat) (l0 : List Int) (l1_0 : List (List Int)) (a1_1 : Int) : Option (Bool) := (spec_l7Shape.f k l0 l1_0 a1_1).bind fun t391 => (if t391 = true then (spec_MoveValid.l0 k l0 0 l1_0 a1_1) else (some false))
theorem spec_MoveValid.mono_l : ∀ k, (∀ y0 y1 y2 y3, LeO (spec_MoveValid.l0 k y0 y1 y2 y3) (spec_MoveValid.l0 (k + 1) y0 y1 y2 y3)) ∧ (∀ y0 y1 y2 y3 y4, LeO (spec_MoveValid.l1 k y0 y1 y2 y3 y4) (spec_MoveValid.l1 (k + 1) y0 y1 y2 y3 y4)) ∧ (∀ y0 y1 y2 y3 y4 y5 y6, LeO (spec_MoveValid.l2 k y0 y1 y2 y3 y4 y5 y6) (spec_MoveValid.l2 (k + 1) y0 y1 y2 y3 y4 y5 y6))
  | 0 => ⟨fun _ _ _ _ r h => by simp [spec_MoveValid.l0] at h, fun _ _ _ _ _ r h => by simp [spec_MoveValid.l1] at h, fun _ _ _ _ _ _ _ r h => by simp [spec_MoveValid.l2] at h⟩
  | k + 1 => by
    obtain ⟨ih0, ih1, ih2⟩ := spec_MoveValid.mono_l k
    refine ⟨?_, ?_, ?_⟩ <;> intros <;> (first | unfold spec_MoveValid.l0 | unfold spec_MoveValid.l1 | unfold spec_MoveValid.l2) <;> (repeat' first
      | (with_reducible exact ih0 _ _ _ _)
      | (with_reducible exact ih1 _ _ _ _ _)
      | (with_reducible exact ih2 _ _ _ _ _ _ _)
      | (with_reducible exact spec_l7Shape.mono _ _ _ _)
      | (with_reducible exact LeO.refl _)
      | (with_reducible exact LeO.none _)
      | (with_reducible refine LeO.ite ?_ ?_)
      | (with_reducible refine LeO.bind ?_ (fun _ => ?_))
      | exact ih0 _ _ _ _
      | exact ih1 _ _ _ _ _
      | exact ih2 _ _ _ _ _ _ _
      | exact spec_l7Shape.mono _ _ _ _
      | exact LeO.none _
      | refine LeO.ite ?_ ?_
      | refine LeO.bind ?_ (fun _ => ?_))
theorem spec_MoveValid.mono : ∀ a0 a1 a2 k, LeO (spec_MoveValid.f k a0 a1 a2) (spec_MoveValid.f (k + 1) a0 a1 a2) := by
  intro a0 a1 a2 k
  obtain ⟨ih0, ih1, ih2⟩ := spec_MoveValid.mono_l k
  unfold spec_MoveValid.f
  repeat' first
      | (with_reducible exact ih0 _ _ _ _)
      | (with_reducible exact ih1 _ _ _ _ _)
      | (with_reducible exact ih2 _ _ _ _ _ _ _)
      | (with_reducible exact spec_l7Shape.mono _ _ _ _)
      | (with_reducible exact LeO.refl _)
      | (with_reducible exact LeO.none _)
      | (with_reducible refine LeO.ite ?_ ?_)
      | (with_reducible refine LeO.bind ?_ (fun _ => ?_))
      | exact ih0 _ _ _ _
      | exact ih1 _ _ _ _ _
      | exact ih2 _ _ _ _ _ _ _
      | exact spec_l7Shape.mono _ _ _ _
      | exact LeO.none _
      | refine LeO.ite ?_ ?_
      | refine LeO.bind ?_ (fun _ => ?_)
set_option maxHeartbeats 8000000 in
set_option maxRecDepth 100000 in
theorem spec_MoveValid.calls (k : Nat) (A0 : Option Addr) (c0 : Nat) (l0 : List Int) (A1_0 : Option Addr) (c1_0 : Nat) (l1_0 : List (List Int)) (a1_1 : Int) (r : Bool) (w : World) (hr0 : Kd.C (Kd.int .i64) w A0 l0.length l0) (hc0 : l0.length ≤ c0) (hr1_0 : Kd.C (Kd.slice 3 (Kd.int .i64)) w A1_0 l1_0.length l1_0) (hc1_0 : l1_0.length ≤ c1_0) (h : spec_MoveValid.f k l0 l1_0 a1_1 = some r) :
    Calls Try.prog 41 #[.slice A0 l0.length c0, .agg #[.slice A1_0 l1_0.length c1_0, .int .i64 a1_1]] w fun e w' => e = .returned (.bool r) ∧ Below w.heap.size w w' := by
  have hu27 := Try.underlying27; have HR0 := Aside0.mk hr0; have HC0 := Aside0.mk hc0; clear hr0 hc0; have HR1_0 := Aside0.mk hr1_0; have HC1_0 := Aside0.mk hc1_0; clear hr1_0 hc1_0; have HB := Aside0.mk (Below.refl w.heap.size w); unfold spec_MoveValid.f at h; have H := h; clear h; obtain ⟨t391, A3, H⟩ := bnd H
  by_cases c4 : t391 = true
  · subst c4
    replace H := ifT H; have H' := Aside0.mk H; clear H; go_enter Try.func41, Try.ntmps41
    go_wp2_with (first | ((with_reducible refine gate_dst (N := 3) rfl ?_); refine boxE (N := 3) (cs := #[.slice A1_0 l1_0.length c1_0, .int .i64 a1_1]) (t := 27) ?_; intro gb390 hg w5 hbox hb; have BK390 := Aside0.mk (hbox); have GW390 := GS w hg; have GE390 := GS w hg; replace HB := BS hb; clear hb hbox hg; obtain ⟨hcz6_0, hcz6_1, hfz6_0, hfz6_1⟩ := bcf BK390) | (go_at_call 82; (with_reducible refine (spec_l7Shape.calls k _ _ l0 _ _ l1_0 a1_1 true _ ?side1 ?side2 ?side3 ?side4 A3.out).mono ?_); (case side1 => exact U (Kd.C_below HR0.out HB.out)); (case side2 => exact HC0.out); (case side3 => exact U (Kd.C_below HR1_0.out HB.out)); (case side4 => exact HC1_0.out); rintro e w7 ⟨rfl, hb⟩; replace BK390 := bB BK390 hb; replace HB := BS hb; (try clear hb)))
    repeat (go_quiet (first | ((with_reducible refine gate_dst (N := 3) rfl ?_); refine boxE (N := 3) (cs := #[.slice A1_0 l1_0.length c1_0, .int .i64 a1_1]) (t := 27) ?_; intro gb390 hg w5 hbox hb; have BK390 := Aside0.mk (hbox); have GW390 := GS w hg; have GE390 := GS w hg; replace HB := BS hb; clear hb hbox hg; obtain ⟨hcz6_0, hcz6_1, hfz6_0, hfz6_1⟩ := bcf BK390) | (go_at_call 82; (with_reducible refine (spec_l7Shape.calls k _ _ l0 _ _ l1_0 a1_1 true _ ?side1 ?side2 ?side3 ?side4 A3.out).mono ?_); (case side1 => exact U (Kd.C_below HR0.out HB.out)); (case side2 => exact HC0.out); (case side3 => exact U (Kd.C_below HR1_0.out HB.out)); (case side4 => exact HC1_0.out); rintro e w7 ⟨rfl, hb⟩; replace BK390 := bB BK390 hb; replace HB := BS hb; (try clear hb))); try go_wp2_with (first | ((with_reducible refine gate_dst (N := 3) rfl ?_); refine boxE (N := 3) (cs := #[.slice A1_0 l1_0.length c1_0, .int .i64 a1_1]) (t := 27) ?_; intro gb390 hg w5 hbox hb; have BK390 := Aside0.mk (hbox); have GW390 := GS w hg; have GE390 := GS w hg; replace HB := BS hb; clear hb hbox hg; obtain ⟨hcz6_0, hcz6_1, hfz6_0, hfz6_1⟩ := bcf BK390) | (go_at_call 82; (with_reducible refine (spec_l7Shape.calls k _ _ l0 _ _ l1_0 a1_1 true _ ?side1 ?side2 ?side3 ?side4 A3.out).mono ?_); (case side1 => exact U (Kd.C_below HR0.out HB.out)); (case side2 => exact HC0.out); (case side3 => exact U (Kd.C_below HR1_0.out HB.out)); (case side4 => exact HC1_0.out); rintro e w7 ⟨rfl, hb⟩; replace BK390 := bB BK390 hb; replace HB := BS hb; (try clear hb))))
    go_loopg [5] k (fun kq v5 w' => ∃ (x5_1 : Int), v5 = .int .i64 x5_1 ∧ Aside0 (spec_MoveValid.l0 kq l0 x5_1 l1_0 a1_1 = some r) ∧ Aside0 (kq ≤ k) ∧ Aside0 (w'.heap[gb390]? = some (.cells #[(.slice A1_0 l1_0.length c1_0), .int .i64 a1_1] 27 (0, 0))) ∧ Aside0 (Below w.heap.size w w'))
    case atStart => exact ⟨(0), sR, H', ⟨Nat.le_refl _⟩, ⟨U BK390.out⟩, ⟨BU⟩⟩
    case round =>
      clear H'; (try clear c4); (try clear hcz6_0); (try clear hcz6_1); (try clear hfz6_0); (try clear hfz6_1); obtain ⟨x5_1, rfl, HA, HK1, BK390, HB⟩ := hrel; cases gk with
      | zero => exact absurd HA.out (by simp [spec_MoveValid.l0])
      | succ k1 =>
        have H := HA.out; clear HA; simp only [spec_MoveValid.l0] at H
        by_cases c8 : x5_1 < (l0.length : Int)
        · rw [if_pos c8] at H
          have c8b0 : decide (x5_1 < (l0.length : Int)) = true := decide_eq_true c8; clear c8; have H' := Aside0.mk H; clear H
          go_wp2
          repeat (go_quiet (fail); try go_wp2)
          go_loopg [6] k1 (fun kq v6 w' => ∃ (x6_2 : Int), v6 = .int .i64 x6_2 ∧ Aside0 (spec_MoveValid.l1 kq l0 x5_1 x6_2 l1_0 a1_1 = some r) ∧ Aside0 (kq ≤ k1) ∧ Aside0 (w'.heap[gb390]? = some (.cells #[(.slice A1_0 l1_0.length c1_0), .int .i64 a1_1] 27 (0, 0))) ∧ Aside0 (Below w.heap.size w w'))
          case atStart => exact ⟨(0), sR, H', ⟨Nat.le_refl _⟩, ⟨U BK390.out⟩, ⟨BU⟩⟩
          case round =>
            clear H'; (try clear c4); (try clear c8); (try clear c8b0); (try clear hcz6_0); (try clear hcz6_1); (try clear hfz6_0); (try clear hfz6_1); obtain ⟨x6_2, rfl, HA, HK2, BK390, HB⟩ := hrel; cases gk with
            | zero => exact absurd HA.out (by simp [spec_MoveValid.l1])
            | succ k2 =>
              have H := HA.out; clear HA; simp only [spec_MoveValid.l1] at H
              by_cases c9 : x6_2 ≤ x5_1
              · rw [if_pos c9] at H
                have c9b0 : decide (x6_2 ≤ x5_1) = true := decide_eq_true c9; clear c9; have H' := Aside0.mk H; clear H
                go_wp2
                repeat (go_quiet (fail); try go_wp2)
                go_loopg [7, 8] k2 (fun kq v7 v8 w' => ∃ (x7_3 : Int) (x8_3 : Int), v7 = .int .i64 x7_3 ∧ v8 = .int .i64 x8_3 ∧ Aside0 (spec_MoveValid.l2 kq l0 x5_1 x6_2 x7_3 x8_3 l1_0 a1_1 = some r) ∧ Aside0 (kq ≤ k2) ∧ Aside0 (w'.heap[gb390]? = some (.cells #[(.slice A1_0 l1_0.length c1_0), .int .i64 a1_1] 27 (0, 0))) ∧ Aside0 (Below w.heap.size w w'))
                case atStart => exact ⟨(0), (0), sR, sR, H', ⟨Nat.le_refl _⟩, ⟨U BK390.out⟩, ⟨BU⟩⟩
                case round =>
                  clear H'; (try clear c4); (try clear c8); (try clear c8b0); (try clear c9); (try clear c9b0); (try clear hcz6_0); (try clear hcz6_1); (try clear hfz6_0); (try clear hfz6_1); obtain ⟨x7_3, x8_3, rfl, rfl, HA, HK3, BK390, HB⟩ := hrel; cases gk with
                  | zero => exact absurd HA.out (by simp [spec_MoveValid.l2])
                  | succ k3 =>
                    have H := HA.out; clear HA; simp only [spec_MoveValid.l2] at H
                    by_cases c10 : x8_3 < (l0.length : Int)
                    · rw [if_pos c10] at H
                      have c10b0 : decide (x8_3 < (l0.length : Int)) = true := decide_eq_true c10; clear c10; obtain ⟨c11, H⟩ := ifN H; have c11b0 : decide (0 ≤ x8_3) = true := decide_eq_true c11; clear c11; obtain ⟨c12, H⟩ := ifN H; have c12b0 : decide (x8_3 < (l1_0.length : Int)) = true := decide_eq_true c12; clear c12; obtain ⟨c13, H⟩ := ifN H; have c13b0 : decide (0 ≤ x5_1) = true := decide_eq_true c13; clear c13; obtain ⟨c14, H⟩ := ifN H; have c14b0 : decide (x5_1 < ((rd_L1 l1_0 x8_3).length : Int)) = true := decide_eq_true c14; clear c14; obtain ⟨c15, H⟩ := ifN H; have c15b0 : decide (0 ≤ x6_2) = true := decide_eq_true c15; clear c15; obtain ⟨c16, H⟩ := ifN H; have c16b0 : decide (x6_2 < ((rd_L1 l1_0 x8_3).length : Int)) = true := decide_eq_true c16; clear c16; have H' := Aside0.mk H; clear H; have p392 : 0 ≤ (x8_3 : Int) := oD; have q392 : x8_3 < (l0.length : Int) := oD; obtain ⟨ad392, e392, hx392_0⟩ := Kd.at_int HR0.out x8_3 p392 q392; cases e392; replace hx392_0 := (HB.out.cell (World.block_lt_of_cell? w _ hx392_0)).trans hx392_0; replace p392 := eq_true p392; replace q392 := eq_true q392; obtain ⟨hcz17_0, hcz17_1, hfz17_0, hfz17_1⟩ := bcf BK390; have p393 : 0 ≤ (x8_3 : Int) := oD; have q393 : x8_3 < (l1_0.length : Int) := oD; obtain ⟨ad393, A393_0, c393_0, e393, hx393_0, hl393_0, hi393_0⟩ := at_L1 HR1_0.out x8_3 p393 q393; cases e393; replace hx393_0 := (HB.out.cell (World.block_lt_of_cell? w _ hx393_0)).trans hx393_0; have HR393_0 := Aside0.mk hi393_0; have HC393_0 := Aside0.mk hl393_0; clear hi393_0 hl393_0; replace p393 := eq_true p393; replace q393 := eq_true q393; have p394 : 0 ≤ (x5_1 : Int) := oD; have q394 : x5_1 < ((rd_L1 l1_0 x8_3).length : Int) := oD; obtain ⟨ad394, e394, hx394_0⟩ := Kd.at_int HR393_0.out x5_1 p394 q394; cases e394; replace hx394_0 := (HB.out.cell (World.block_lt_of_cell? w _ hx394_0)).trans hx394_0; replace p394 := eq_true p394; replace q394 := eq_true q394; have p395 : 0 ≤ (x8_3 : Int) := oD; have q395 : x8_3 < (l1_0.length : Int) := oD; obtain ⟨ad395, A395_0, c395_0, e395, hx395_0, hl395_0, hi395_0⟩ := at_L1 HR1_0.out x8_3 p395 q395; obtain rfl : ad393 = ad395 := (by injection e395); replace hx395_0 := (HB.out.cell (World.block_lt_of_cell? w _ hx395_0)).trans hx395_0; have HR395_0 := Aside0.mk hi395_0; have HC395_0 := Aside0.mk hl395_0; clear hi395_0 hl395_0; replace p395 := eq_true p395; replace q395 := eq_true q395; have ea_ := Option.some.inj (hx393_0.symm.trans hx395_0)
                      injection ea_ with ea_ en_ ec_
                      subst ea_; subst ec_; clear en_; have p396 : 0 ≤ (x6_2 : Int) := oD; have q396 : x6_2 < ((rd_L1 l1_0 x8_3).length : Int) := oD; obtain ⟨ad396, e396, hx396_0⟩ := Kd.at_int HR395_0.out x6_2 p396 q396; cases e396; replace hx396_0 := (HB.out.cell (World.block_lt_of_cell? w _ hx396_0)).trans hx396_0; replace p396 := eq_true p396; replace q396 := eq_true q396
                      go_wp2
                      repeat (go_quiet (fail); try go_wp2)
                      go_roundg k3
                      case measure => have := HK1.out; have := HK2.out; have := HK3.out; omega
                      case rel => exact ⟨(wrap64 (x7_3 + (wrap64 ((wrap64 ((rd l0 x8_3) * (rd (rd_L1 l1_0 x8_3) x5_1))) * (rd (rd_L1 l1_0 x8_3) x6_2))))), (wrap64 (x8_3 + 1)), sR, sR, H', ⟨by have := HK1.out; have := HK2.out; have := HK3.out; omega⟩, ⟨U BK390.out⟩, ⟨BU⟩⟩
                    rw [if_neg c10] at H; have c10b0 : decide (x8_3 < (l0.length : Int)) = false := decide_eq_false c10; clear c10
                    by_cases c18 : x5_1 = x6_2
                    · rw [if_pos c18] at H
                      have c18b0 : (x5_1 == x6_2) = true := beq_iff_eq.mpr c18; have c18b1 : (x5_1 != x6_2) = false := bne_eq_false_iff_eq.mpr c18; clear c18; obtain ⟨c19, H⟩ := ifN H; have c19b0 : decide (0 ≤ x5_1) = true := decide_eq_true c19; clear c19; obtain ⟨c20, H⟩ := ifN H; have c20b0 : decide (x5_1 < (l0.length : Int)) = true := decide_eq_true c20; clear c20
                      by_cases c21 : x7_3 = (wrap64 ((wrap64 ((rd l0 x5_1) * a1_1)) * a1_1))
                      · rw [if_pos c21] at H
                        have c21b0 : (x7_3 == (wrap64 ((wrap64 ((rd l0 x5_1) * a1_1)) * a1_1))) = true := beq_iff_eq.mpr c21; have c21b1 : (x7_3 != (wrap64 ((wrap64 ((rd l0 x5_1) * a1_1)) * a1_1))) = false := bne_eq_false_iff_eq.mpr c21; clear c21; have H' := Aside0.mk H; clear H; have p397 : 0 ≤ (x5_1 : Int) := oD; have q397 : x5_1 < (l0.length : Int) := oD; obtain ⟨ad397, e397, hx397_0⟩ := Kd.at_int HR0.out x5_1 p397 q397; cases e397; replace hx397_0 := (HB.out.cell (World.block_lt_of_cell? w _ hx397_0)).trans hx397_0; replace p397 := eq_true p397; replace q397 := eq_true q397; obtain ⟨hcz22_0, hcz22_1, hfz22_0, hfz22_1⟩ := bcf BK390
                        go_wp2
                        repeat (go_quiet (fail); try go_wp2)
                        go_roundg k3
                        case measure => have := HK1.out; have := HK2.out; have := HK3.out; omega
                        case rel => exact ⟨(wrap64 (x6_2 + 1)), sR, H', ⟨by have := HK1.out; have := HK2.out; have := HK3.out; omega⟩, ⟨U BK390.out⟩, ⟨BU⟩⟩
                      rw [if_neg c21] at H; have c21b0 : (x7_3 == (wrap64 ((wrap64 ((rd l0 x5_1) * a1_1)) * a1_1))) = false := beq_eq_false_iff_ne.mpr c21; have c21b1 : (x7_3 != (wrap64 ((wrap64 ((rd l0 x5_1) * a1_1)) * a1_1))) = true := bne_iff_ne.mpr c21; obtain rfl := Option.some.inj H; have p397 : 0 ≤ (x5_1 : Int) := oD; have q397 : x5_1 < (l0.length : Int) := oD; obtain ⟨ad397, e397, hx397_0⟩ := Kd.at_int HR0.out x5_1 p397 q397; cases e397; replace hx397_0 := (HB.out.cell (World.block_lt_of_cell? w _ hx397_0)).trans hx397_0; replace p397 := eq_true p397; replace q397 := eq_true q397; obtain ⟨hcz23_0, hcz23_1, hfz23_0, hfz23_1⟩ := bcf BK390
                      go_wp2
                      repeat (go_quiet (fail); try go_wp2)
                      go_ret
                      exact ⟨eR, BU⟩
                    rw [if_neg c18] at H; have c18b0 : (x5_1 == x6_2) = false := beq_eq_false_iff_ne.mpr c18; have c18b1 : (x5_1 != x6_2) = true := bne_iff_ne.mpr c18
                    by_cases c24 : x7_3 = 0
                    · rw [if_pos c24] at H
                      have c24b0 : (x7_3 == 0) = true := beq_iff_eq.mpr c24; have c24b1 : (x7_3 != 0) = false := bne_eq_false_iff_eq.mpr c24; clear c24; have H' := Aside0.mk H; clear H
                      go_wp2
                      repeat (go_quiet (fail); try go_wp2)
                      go_roundg k3
                      case measure => have := HK1.out; have := HK2.out; have := HK3.out; omega
                      case rel => exact ⟨(wrap64 (x6_2 + 1)), sR, H', ⟨by have := HK1.out; have := HK2.out; have := HK3.out; omega⟩, ⟨U BK390.out⟩, ⟨BU⟩⟩
                    rw [if_neg c24] at H; have c24b0 : (x7_3 == 0) = false := beq_eq_false_iff_ne.mpr c24; have c24b1 : (x7_3 != 0) = true := bne_iff_ne.mpr c24; obtain rfl := Option.some.inj H
                    go_wp2
                    repeat (go_quiet (fail); try go_wp2)
                    go_ret
                    exact ⟨eR, BU⟩
              rw [if_neg c9] at H; have c9b0 : decide (x6_2 ≤ x5_1) = false := decide_eq_false c9; clear c9; have H' := Aside0.mk H; clear H
              go_wp2
              repeat (go_quiet (fail); try go_wp2)
              go_roundg k2
              case measure => have := HK1.out; have := HK2.out; omega
              case rel => exact ⟨(wrap64 (x5_1 + 1)), sR, H', ⟨by have := HK1.out; have := HK2.out; omega⟩, ⟨U BK390.out⟩, ⟨BU⟩⟩
        rw [if_neg c8] at H; have c8b0 : decide (x5_1 < (l0.length : Int)) = false := decide_eq_false c8; clear c8; obtain rfl := Option.some.inj H
        go_wp2
        repeat (go_quiet (fail); try go_wp2)
        go_ret
        exact ⟨eR, BU⟩
  replace c4 := Bool.eq_false_iff.mpr c4; subst c4; replace H := ifF H; obtain rfl := Option.some.inj H; go_enter Try.func41, Try.ntmps41
  go_wp2_with (first | ((with_reducible refine gate_dst (N := 3) rfl ?_); refine boxE (N := 3) (cs := #[.slice A1_0 l1_0.length c1_0, .int .i64 a1_1]) (t := 27) ?_; intro gb390 hg w25 hbox hb; have BK390 := Aside0.mk (hbox); have GW390 := GS w hg; have GE390 := GS w hg; replace HB := BS hb; clear hb hbox hg; obtain ⟨hcz26_0, hcz26_1, hfz26_0, hfz26_1⟩ := bcf BK390) | (go_at_call 82; (with_reducible refine (spec_l7Shape.calls k _ _ l0 _ _ l1_0 a1_1 false _ ?side1 ?side2 ?side3 ?side4 A3.out).mono ?_); (case side1 => exact U (Kd.C_below HR0.out HB.out)); (case side2 => exact HC0.out); (case side3 => exact U (Kd.C_below HR1_0.out HB.out)); (case side4 => exact HC1_0.out); rintro e w27 ⟨rfl, hb⟩; replace BK390 := bB BK390 hb; replace HB := BS hb; (try clear hb)))
  repeat (go_quiet (first | ((with_reducible refine gate_dst (N := 3) rfl ?_); refine boxE (N := 3) (cs := #[.slice A1_0 l1_0.length c1_0, .int .i64 a1_1]) (t := 27) ?_; intro gb390 hg w25 hbox hb; have BK390 := Aside0.mk (hbox); have GW390 := GS w hg; have GE390 := GS w hg; replace HB := BS hb; clear hb hbox hg; obtain ⟨hcz26_0, hcz26_1, hfz26_0, hfz26_1⟩ := bcf BK390) | (go_at_call 82; (with_reducible refine (spec_l7Shape.calls k _ _ l0 _ _ l1_0 a1_1 false _ ?side1 ?side2 ?side3 ?side4 A3.out).mono ?_); (case side1 => exact U (Kd.C_below HR0.out HB.out)); (case side2 => exact HC0.out); (case side3 => exact U (Kd.C_below HR1_0.out HB.out)); (case side4 => exact HC1_0.out); rintro e w27 ⟨rfl, hb⟩; replace BK390 := bB BK390 hb; replace HB := BS hb; (try clear hb))); try go_wp2_with (first | ((with_reducible refine gate_dst (N := 3) rfl ?_); refine boxE (N := 3) (cs := #[.slice A1_0 l1_0.length c1_0, .int .i64 a1_1]) (t := 27) ?_; intro gb390 hg w25 hbox hb; have BK390 := Aside0.mk (hbox); have GW390 := GS w hg; have GE390 := GS w hg; replace HB := BS hb; clear hb hbox hg; obtain ⟨hcz26_0, hcz26_1, hfz26_0, hfz26_1⟩ := bcf BK390) | (go_at_call 82; (with_reducible refine (spec_l7Shape.calls k _ _ l0 _ _ l1_0 a1_1 false _ ?side1 ?side2 ?side3 ?side4 A3.out).mono ?_); (case side1 => exact U (Kd.C_below HR0.out HB.out)); (case side2 => exact HC0.out); (case side3 => exact U (Kd.C_below HR1_0.out HB.out)); (case side4 => exact HC1_0.out); rintro e w27 ⟨rfl, hb⟩; replace BK390 := bB BK390 hb; replace HB := BS hb; (try clear hb))))
  go_ret
  exact ⟨eR, BU⟩

end Go.Proofs.Ytnbeeogmaamgdaa.PFnOf
