import Derived.Test.YtnbeeogmaamgdaaPFnSplitMovex0
import Derived.Test.YtnbeeogmaamgdaaPFnSplitMovex8
import Derived.Test.YtnbeeogmaamgdaaPFnSplitMovex9
namespace Go.Proofs.Ytnbeeogmaamgdaa.PFnSplitMove
open Go.RowKit Go.Proofs.YtnbeeogmaamgdaaW.PrintWords Go.Proofs.YtnbeeogmaamgdaaW.PrintLast Go.Proofs.YtnbeeogmaamgdaaW.PrintMore
attribute [local go_sem] max2_int min2_int max_two min_two max_three min_three max_four min_four   -- for this text's walks alone
set_option linter.unusedVariables false
set_option linter.unusedSimpArgs false

/-! ### spec_MoveValid: function 41 -/
mutual
def spec_MoveValid.l0 : Nat → List Int → Int → List (List Int) → Int → Option (Bool)
  | 0, _, _, _, _ => none
  | k + 1, x0, x5, x318000, x318001 => if x5 < (x0.length : Int) then (spec_MoveValid.l1 k x0 x5 0 x318000 x318001) else (some true)
def spec_MoveValid.l1 : Nat → List Int → Int → Int → List (List Int) → Int → Option (Bool)
  | 0, _, _, _, _, _ => none
  | k + 1, x0, x5, x6, x318000, x318001 => if x6 ≤ x5 then (spec_MoveValid.l2 k x0 x5 x6 0 0 x318000 x318001) else (spec_MoveValid.l0 k x0 (wrap64 (x5 + 1)) x318000 x318001)
def spec_MoveValid.l2 : Nat → List Int → Int → Int → Int → Int → List (List Int) → Int → Option (Bool)
  | 0, _, _, _, _, _, _, _ => none
  | k + 1, x0, x5, x6, x7, x8, x318000, x318001 => if x8 < (x0.length : Int) then (if 0 ≤ x8 then (if x8 < (x318000.length : Int) then (if 0 ≤ x5 then (if x5 < ((rd_L1 x318000 x8).length : Int) then (if 0 ≤ x6 then (if x6 < ((rd_L1 x318000 x8).length : Int) then (spec_MoveValid.l2 k x0 x5 x6 (wrap64 (x7 + (wrap64 ((wrap64 ((rd x0 x8) * (rd (rd_L1 x318000 x8) x5))) * (rd (rd_L1 x318000 x8) x6))))) (wrap64 (x8 + 1)) x318000 x318001) else (none)) else (none)) else (none)) else (none)) else (none)) else (none)) else (if x5 = x6 then (if 0 ≤ x5 then (if x5 < (x0.length : Int) then (if x7 = (wrap64 ((wrap64 ((rd x0 x5) * x318001)) * x318001)) then (spec_MoveValid.l1 k x0 x5 (wrap64 (x6 + 1)) x318000 x318001) else (some false)) else (none)) else (none)) else (if x7 = 0 then (spec_MoveValid.l1 k x0 x5 (wrap64 (x6 + 1)) x318000 x318001) else (some false)))
end
def spec_MoveValid.f (k : Nat) (l0 : List Int) (l1_0 : List (List Int)) (a1_1 : Int) : Option (Bool) := (spec_l7Shape.f k l0 l1_0 a1_1).bind fun t318 => (if t318 = true then (spec_MoveValid.l0 k l0 0 l1_0 a1_1) else (some false))
theorem spec_MoveValid.mono_l : ∀ k, (∀ y0 y1 y2 y3, LeO (spec_MoveValid.l0 k y0 y1 y2 y3) (spec_MoveValid.l0 (k + 1) y0 y1 y2 y3)) ∧ (∀ y0 y1 y2 y3 y4, LeO (spec_MoveValid.l1 k y0 y1 y2 y3 y4) (spec_MoveValid.l1 (k + 1) y0 y1 y2 y3 y4)) ∧ (∀ y0 y1 y2 y3 y4 y5 y6, LeO (spec_MoveValid.l2 k y0 y1 y2 y3 y4 y5 y6) (spec_MoveValid.l2 (k + 1) y0 y1 y2 y3 y4 y5 y6))
  | 0 => ⟨fun _ _ _ _ r h => by simp [spec_MoveValid.l0] at h, fun _ _ _ _ _ r h => by simp [spec_MoveValid.l1] at h, fun _ _ _ _ _ _ _ r h => by simp [spec_MoveValid.l2] at h⟩
  | k + 1 => by
    obtain ⟨ih0, ih1, ih2⟩ := spec_MoveValid.mono_l k
    refine ⟨?_, ?_, ?_⟩ <;> intros <;> (first | unfold spec_MoveValid.l0 | unfold spec_MoveValid.l1 | unfold spec_MoveValid.l2) <;> (with_reducible repeat' first | exact ih0 _ _ _ _ | exact ih1 _ _ _ _ _ | exact ih2 _ _ _ _ _ _ _ | exact spec_l7Shape.mono _ _ _ _ | exact LeO.refl _ | exact LeO.none _ | refine LeO.ite ?_ ?_ | refine LeO.bind ?_ (fun _ => ?_))
theorem spec_MoveValid.mono : ∀ a0 a1 a2 k, LeO (spec_MoveValid.f k a0 a1 a2) (spec_MoveValid.f (k + 1) a0 a1 a2) := by
  intro a0 a1 a2 k
  obtain ⟨ih0, ih1, ih2⟩ := spec_MoveValid.mono_l k
  unfold spec_MoveValid.f
  with_reducible repeat' first | exact ih0 _ _ _ _ | exact ih1 _ _ _ _ _ | exact ih2 _ _ _ _ _ _ _ | exact spec_l7Shape.mono _ _ _ _ | exact LeO.refl _ | exact LeO.none _ | refine LeO.ite ?_ ?_ | refine LeO.bind ?_ (fun _ => ?_)
set_option maxHeartbeats 8000000 in
set_option maxRecDepth 100000 in
theorem spec_MoveValid.calls (k : Nat) (A0 : Option Addr) (c0 : Nat) (l0 : List Int) (A1_0 : Option Addr) (c1_0 : Nat) (l1_0 : List (List Int)) (a1_1 : Int) (r : Bool) (w : World) (hr0 : Kd.C (Kd.int .i64) w A0 l0.length l0) (hc0 : l0.length ≤ c0) (hr1_0 : Kd.C (Kd.slice 3 (Kd.int .i64)) w A1_0 l1_0.length l1_0) (hc1_0 : l1_0.length ≤ c1_0) (h : spec_MoveValid.f k l0 l1_0 a1_1 = some r) :
    Calls Try.prog 41 #[.slice A0 l0.length c0, .agg #[.slice A1_0 l1_0.length c1_0, .int .i64 a1_1]] w fun e w' => e = .returned (.bool r) ∧ Below w.heap.size w w' := by
  have hu27 := Try.underlying27; have HR0 := Aside0.mk hr0; have HC0 := Aside0.mk hc0; clear hr0 hc0; have HR1_0 := Aside0.mk hr1_0; have HC1_0 := Aside0.mk hc1_0; clear hr1_0 hc1_0; have HB := Aside0.mk (Below.refl w.heap.size w); unfold spec_MoveValid.f at h; have H := h; clear h; obtain ⟨t318, A3, H⟩ := bnd H
  by_cases c4 : t318 = true
  · subst c4
    replace H := ifT H; have H' := Aside0.mk H; clear H; go_enter Try.func41, Try.ntmps41
    go_wp2_with (first | ((with_reducible refine gate_dst (N := 3) rfl ?_); refine boxE (N := 3) (cs := #[.slice A1_0 l1_0.length c1_0, .int .i64 a1_1]) (t := 27) ?_; intro gb317 hg w5 hbox hb; have BK317 := Aside0.mk (hbox); have GW317 := GS w hg; have GE317 := GS w hg; replace HB := BS hb; clear hb hbox hg; obtain ⟨hcz6_0, hcz6_1, hfz6_0, hfz6_1⟩ := bcf BK317) | (go_at_call 82; (with_reducible refine (spec_l7Shape.calls k _ _ l0 _ _ l1_0 a1_1 true _ ?side1 ?side2 ?side3 ?side4 A3.out).mono ?_); (case side1 => exact U (Kd.C_below HR0.out HB.out)); (case side2 => exact HC0.out); (case side3 => exact U (Kd.C_below HR1_0.out HB.out)); (case side4 => exact HC1_0.out); rintro e w7 ⟨rfl, hb⟩; replace BK317 := bB BK317 hb; replace HB := BS hb; (try clear hb)))
    go_loopg [5] k (fun kq v5 w' => ∃ (x5_1 : Int), v5 = .int .i64 x5_1 ∧ Aside0 (spec_MoveValid.l0 kq l0 x5_1 l1_0 a1_1 = some r) ∧ Aside0 (kq ≤ k) ∧ Aside0 (w'.heap[gb317]? = some (.cells #[(.slice A1_0 l1_0.length c1_0), .int .i64 a1_1] 27 (0, 0))) ∧ Aside0 (Below w.heap.size w w'))
    case atStart => exact ⟨(0), sR, H', ⟨Nat.le_refl _⟩, ⟨U BK317.out⟩, ⟨BU⟩⟩
    case round =>
      clear H'; (try clear c4); (try clear hcz6_0); (try clear hcz6_1); (try clear hfz6_0); (try clear hfz6_1); obtain ⟨x5_1, rfl, HA, HK1, BK317, HB⟩ := hrel; cases gk with
      | zero => exact absurd HA.out (by simp [spec_MoveValid.l0])
      | succ k1 =>
        have H := HA.out; clear HA; simp only [spec_MoveValid.l0] at H
        by_cases c8 : x5_1 < (l0.length : Int)
        · rw [if_pos c8] at H
          have c8b0 : decide (x5_1 < (l0.length : Int)) = true := decide_eq_true c8; clear c8; have H' := Aside0.mk H; clear H
          go_wp2
          repeat (go_quiet (fail); try go_wp2)
          go_loopg [6] k1 (fun kq v6 w' => ∃ (x6_2 : Int), v6 = .int .i64 x6_2 ∧ Aside0 (spec_MoveValid.l1 kq l0 x5_1 x6_2 l1_0 a1_1 = some r) ∧ Aside0 (kq ≤ k1) ∧ Aside0 (w'.heap[gb317]? = some (.cells #[(.slice A1_0 l1_0.length c1_0), .int .i64 a1_1] 27 (0, 0))) ∧ Aside0 (Below w.heap.size w w'))
          case atStart => exact ⟨(0), sR, H', ⟨Nat.le_refl _⟩, ⟨U BK317.out⟩, ⟨BU⟩⟩
          case round =>
            clear H'; (try clear c4); (try clear c8); (try clear c8b0); (try clear hcz6_0); (try clear hcz6_1); (try clear hfz6_0); (try clear hfz6_1); obtain ⟨x6_2, rfl, HA, HK2, BK317, HB⟩ := hrel; cases gk with
            | zero => exact absurd HA.out (by simp [spec_MoveValid.l1])
            | succ k2 =>
              have H := HA.out; clear HA; simp only [spec_MoveValid.l1] at H
              by_cases c9 : x6_2 ≤ x5_1
              · rw [if_pos c9] at H
                have c9b0 : decide (x6_2 ≤ x5_1) = true := decide_eq_true c9; clear c9; have H' := Aside0.mk H; clear H
                go_wp2
                repeat (go_quiet (fail); try go_wp2)
                go_loopg [7, 8] k2 (fun kq v7 v8 w' => ∃ (x7_3 : Int) (x8_3 : Int), v7 = .int .i64 x7_3 ∧ v8 = .int .i64 x8_3 ∧ Aside0 (spec_MoveValid.l2 kq l0 x5_1 x6_2 x7_3 x8_3 l1_0 a1_1 = some r) ∧ Aside0 (kq ≤ k2) ∧ Aside0 (w'.heap[gb317]? = some (.cells #[(.slice A1_0 l1_0.length c1_0), .int .i64 a1_1] 27 (0, 0))) ∧ Aside0 (Below w.heap.size w w'))
                case atStart => exact ⟨(0), (0), sR, sR, H', ⟨Nat.le_refl _⟩, ⟨U BK317.out⟩, ⟨BU⟩⟩
                case round =>
                  clear H'; (try clear c4); (try clear c8); (try clear c8b0); (try clear c9); (try clear c9b0); (try clear hcz6_0); (try clear hcz6_1); (try clear hfz6_0); (try clear hfz6_1); obtain ⟨x7_3, x8_3, rfl, rfl, HA, HK3, BK317, HB⟩ := hrel; cases gk with
                  | zero => exact absurd HA.out (by simp [spec_MoveValid.l2])
                  | succ k3 =>
                    have H := HA.out; clear HA; simp only [spec_MoveValid.l2] at H
                    by_cases c10 : x8_3 < (l0.length : Int)
                    · rw [if_pos c10] at H
                      have c10b0 : decide (x8_3 < (l0.length : Int)) = true := decide_eq_true c10; clear c10; obtain ⟨c11, H⟩ := ifN H; have c11b0 : decide (0 ≤ x8_3) = true := decide_eq_true c11; clear c11; obtain ⟨c12, H⟩ := ifN H; have c12b0 : decide (x8_3 < (l1_0.length : Int)) = true := decide_eq_true c12; clear c12; obtain ⟨c13, H⟩ := ifN H; have c13b0 : decide (0 ≤ x5_1) = true := decide_eq_true c13; clear c13; obtain ⟨c14, H⟩ := ifN H; have c14b0 : decide (x5_1 < ((rd_L1 l1_0 x8_3).length : Int)) = true := decide_eq_true c14; clear c14; obtain ⟨c15, H⟩ := ifN H; have c15b0 : decide (0 ≤ x6_2) = true := decide_eq_true c15; clear c15; obtain ⟨c16, H⟩ := ifN H; have c16b0 : decide (x6_2 < ((rd_L1 l1_0 x8_3).length : Int)) = true := decide_eq_true c16; clear c16; have H' := Aside0.mk H; clear H; have p319 : 0 ≤ (x8_3 : Int) := oD; have q319 : x8_3 < (l0.length : Int) := oD; obtain ⟨ad319, e319, hx319_0⟩ := Kd.at_int HR0.out x8_3 p319 q319; cases e319; replace hx319_0 := (HB.out.cell (World.block_lt_of_cell? w _ hx319_0)).trans hx319_0; replace p319 := eq_true p319; replace q319 := eq_true q319; obtain ⟨hcz17_0, hcz17_1, hfz17_0, hfz17_1⟩ := bcf BK317; have p320 : 0 ≤ (x8_3 : Int) := oD; have q320 : x8_3 < (l1_0.length : Int) := oD; obtain ⟨ad320, A320_0, c320_0, e320, hx320_0, hl320_0, hi320_0⟩ := at_L1 HR1_0.out x8_3 p320 q320; cases e320; replace hx320_0 := (HB.out.cell (World.block_lt_of_cell? w _ hx320_0)).trans hx320_0; have HR320_0 := Aside0.mk hi320_0; have HC320_0 := Aside0.mk hl320_0; clear hi320_0 hl320_0; replace p320 := eq_true p320; replace q320 := eq_true q320; have p321 : 0 ≤ (x5_1 : Int) := oD; have q321 : x5_1 < ((rd_L1 l1_0 x8_3).length : Int) := oD; obtain ⟨ad321, e321, hx321_0⟩ := Kd.at_int HR320_0.out x5_1 p321 q321; cases e321; replace hx321_0 := (HB.out.cell (World.block_lt_of_cell? w _ hx321_0)).trans hx321_0; replace p321 := eq_true p321; replace q321 := eq_true q321; have p322 : 0 ≤ (x8_3 : Int) := oD; have q322 : x8_3 < (l1_0.length : Int) := oD; obtain ⟨ad322, A322_0, c322_0, e322, hx322_0, hl322_0, hi322_0⟩ := at_L1 HR1_0.out x8_3 p322 q322; obtain rfl : ad320 = ad322 := (by injection e322); replace hx322_0 := (HB.out.cell (World.block_lt_of_cell? w _ hx322_0)).trans hx322_0; have HR322_0 := Aside0.mk hi322_0; have HC322_0 := Aside0.mk hl322_0; clear hi322_0 hl322_0; replace p322 := eq_true p322; replace q322 := eq_true q322; have ea_ := Option.some.inj (hx320_0.symm.trans hx322_0)
                      injection ea_ with ea_ en_ ec_
                      subst ea_; subst ec_; clear en_; have p323 : 0 ≤ (x6_2 : Int) := oD; have q323 : x6_2 < ((rd_L1 l1_0 x8_3).length : Int) := oD; obtain ⟨ad323, e323, hx323_0⟩ := Kd.at_int HR322_0.out x6_2 p323 q323; cases e323; replace hx323_0 := (HB.out.cell (World.block_lt_of_cell? w _ hx323_0)).trans hx323_0; replace p323 := eq_true p323; replace q323 := eq_true q323
                      go_wp2
                      repeat (go_quiet (fail); try go_wp2)
                      go_roundg k3
                      case measure => have := HK1.out; have := HK2.out; have := HK3.out; omega
                      case rel => exact ⟨(wrap64 (x7_3 + (wrap64 ((wrap64 ((rd l0 x8_3) * (rd (rd_L1 l1_0 x8_3) x5_1))) * (rd (rd_L1 l1_0 x8_3) x6_2))))), (wrap64 (x8_3 + 1)), sR, sR, H', ⟨by have := HK1.out; have := HK2.out; have := HK3.out; omega⟩, ⟨U BK317.out⟩, ⟨BU⟩⟩
                    rw [if_neg c10] at H; have c10b0 : decide (x8_3 < (l0.length : Int)) = false := decide_eq_false c10; clear c10
                    by_cases c18 : x5_1 = x6_2
                    · rw [if_pos c18] at H
                      have c18b0 : (x5_1 == x6_2) = true := beq_iff_eq.mpr c18; have c18b1 : (x5_1 != x6_2) = false := bne_eq_false_iff_eq.mpr c18; clear c18; obtain ⟨c19, H⟩ := ifN H; have c19b0 : decide (0 ≤ x5_1) = true := decide_eq_true c19; clear c19; obtain ⟨c20, H⟩ := ifN H; have c20b0 : decide (x5_1 < (l0.length : Int)) = true := decide_eq_true c20; clear c20
                      by_cases c21 : x7_3 = (wrap64 ((wrap64 ((rd l0 x5_1) * a1_1)) * a1_1))
                      · rw [if_pos c21] at H
                        have c21b0 : (x7_3 == (wrap64 ((wrap64 ((rd l0 x5_1) * a1_1)) * a1_1))) = true := beq_iff_eq.mpr c21; have c21b1 : (x7_3 != (wrap64 ((wrap64 ((rd l0 x5_1) * a1_1)) * a1_1))) = false := bne_eq_false_iff_eq.mpr c21; clear c21; have H' := Aside0.mk H; clear H; have p324 : 0 ≤ (x5_1 : Int) := oD; have q324 : x5_1 < (l0.length : Int) := oD; obtain ⟨ad324, e324, hx324_0⟩ := Kd.at_int HR0.out x5_1 p324 q324; cases e324; replace hx324_0 := (HB.out.cell (World.block_lt_of_cell? w _ hx324_0)).trans hx324_0; replace p324 := eq_true p324; replace q324 := eq_true q324; obtain ⟨hcz22_0, hcz22_1, hfz22_0, hfz22_1⟩ := bcf BK317
                        go_wp2
                        repeat (go_quiet (fail); try go_wp2)
                        go_roundg k3
                        case measure => have := HK1.out; have := HK2.out; have := HK3.out; omega
                        case rel => exact ⟨(wrap64 (x6_2 + 1)), sR, H', ⟨by have := HK1.out; have := HK2.out; have := HK3.out; omega⟩, ⟨U BK317.out⟩, ⟨BU⟩⟩
                      rw [if_neg c21] at H; have c21b0 : (x7_3 == (wrap64 ((wrap64 ((rd l0 x5_1) * a1_1)) * a1_1))) = false := beq_eq_false_iff_ne.mpr c21; have c21b1 : (x7_3 != (wrap64 ((wrap64 ((rd l0 x5_1) * a1_1)) * a1_1))) = true := bne_iff_ne.mpr c21; obtain rfl := Option.some.inj H; have p324 : 0 ≤ (x5_1 : Int) := oD; have q324 : x5_1 < (l0.length : Int) := oD; obtain ⟨ad324, e324, hx324_0⟩ := Kd.at_int HR0.out x5_1 p324 q324; cases e324; replace hx324_0 := (HB.out.cell (World.block_lt_of_cell? w _ hx324_0)).trans hx324_0; replace p324 := eq_true p324; replace q324 := eq_true q324; obtain ⟨hcz23_0, hcz23_1, hfz23_0, hfz23_1⟩ := bcf BK317
                      go_wp2
                      repeat (go_quiet (fail); try go_wp2)
                      go_ret
                      exact ⟨eR, BU⟩
                    rw [if_neg c18] at H; have c18b0 : (x5_1 == x6_2) = false := beq_eq_false_iff_ne.mpr c18; have c18b1 : (x5_1 != x6_2) = true := bne_iff_ne.mpr c18
                    by_cases c24 : x7_3 = 0
                    · rw [if_pos c24] at H
                      have c24b0 : (x7_3 == 0) = true := beq_iff_eq.mpr c24; have c24b1 : (x7_3 != 0) = false := bne_eq_false_iff_eq.mpr c24; clear c24; have H' := Aside0.mk H; clear H
                      go_wp2
                      repeat (go_quiet (fail); try go_wp2)
                      go_roundg k3
                      case measure => have := HK1.out; have := HK2.out; have := HK3.out; omega
                      case rel => exact ⟨(wrap64 (x6_2 + 1)), sR, H', ⟨by have := HK1.out; have := HK2.out; have := HK3.out; omega⟩, ⟨U BK317.out⟩, ⟨BU⟩⟩
                    rw [if_neg c24] at H; have c24b0 : (x7_3 == 0) = false := beq_eq_false_iff_ne.mpr c24; have c24b1 : (x7_3 != 0) = true := bne_iff_ne.mpr c24; obtain rfl := Option.some.inj H
                    go_wp2
                    repeat (go_quiet (fail); try go_wp2)
                    go_ret
                    exact ⟨eR, BU⟩
              rw [if_neg c9] at H; have c9b0 : decide (x6_2 ≤ x5_1) = false := decide_eq_false c9; clear c9; have H' := Aside0.mk H; clear H
              go_wp2
              repeat (go_quiet (fail); try go_wp2)
              go_roundg k2
              case measure => have := HK1.out; have := HK2.out; omega
              case rel => exact ⟨(wrap64 (x5_1 + 1)), sR, H', ⟨by have := HK1.out; have := HK2.out; omega⟩, ⟨U BK317.out⟩, ⟨BU⟩⟩
        rw [if_neg c8] at H; have c8b0 : decide (x5_1 < (l0.length : Int)) = false := decide_eq_false c8; clear c8; obtain rfl := Option.some.inj H
        go_wp2
        repeat (go_quiet (fail); try go_wp2)
        go_ret
        exact ⟨eR, BU⟩
  replace c4 := Bool.eq_false_iff.mpr c4; subst c4; replace H := ifF H; obtain rfl := Option.some.inj H; go_enter Try.func41, Try.ntmps41
  go_wp2_with (first | ((with_reducible refine gate_dst (N := 3) rfl ?_); refine boxE (N := 3) (cs := #[.slice A1_0 l1_0.length c1_0, .int .i64 a1_1]) (t := 27) ?_; intro gb317 hg w25 hbox hb; have BK317 := Aside0.mk (hbox); have GW317 := GS w hg; have GE317 := GS w hg; replace HB := BS hb; clear hb hbox hg; obtain ⟨hcz26_0, hcz26_1, hfz26_0, hfz26_1⟩ := bcf BK317) | (go_at_call 82; (with_reducible refine (spec_l7Shape.calls k _ _ l0 _ _ l1_0 a1_1 false _ ?side1 ?side2 ?side3 ?side4 A3.out).mono ?_); (case side1 => exact U (Kd.C_below HR0.out HB.out)); (case side2 => exact HC0.out); (case side3 => exact U (Kd.C_below HR1_0.out HB.out)); (case side4 => exact HC1_0.out); rintro e w27 ⟨rfl, hb⟩; replace BK317 := bB BK317 hb; replace HB := BS hb; (try clear hb)))
  go_ret
  exact ⟨eR, BU⟩

/-! ### spec_l4Vector: function 67 -/
def spec_l4Vector.l0 : Nat → List Int → List Int → Int → Int → Option (Bool)
  | 0, _, _, _, _ => none
  | k + 1, x0, x1, x2, x7 => if x7 < (x1.length : Int) then (if 0 ≤ x7 then ((spec_l6In.f (rd x1 x7) (wrap64 (-x2)) x2).bind fun t326 => (if t326 = true then (spec_l4Vector.l0 k x0 x1 x2 (wrap64 (x7 + 1))) else (some false))) else (none)) else ((spec_FormValid.f k x0).bind fun t327 => (if t327 = true then (some ((x1.length : Int) == (x0.length : Int))) else (some false)))
def spec_l4Vector.f (k : Nat) (l0 : List Int) (l1 : List Int) (a2 : Int) : Option (Bool) := spec_l4Vector.l0 k l0 l1 a2 0
theorem spec_l4Vector.mono_l : ∀ k, (∀ y0 y1 y2 y3, LeO (spec_l4Vector.l0 k y0 y1 y2 y3) (spec_l4Vector.l0 (k + 1) y0 y1 y2 y3))
  | 0 => fun _ _ _ _ r h => by simp [spec_l4Vector.l0] at h
  | k + 1 => by
    have ih0 := spec_l4Vector.mono_l k
    · intro y0 y1 y2 y3
      unfold spec_l4Vector.l0
      with_reducible repeat' first | exact ih0 _ _ _ _ | exact spec_FormValid.mono _ _ | exact LeO.refl _ | exact LeO.none _ | refine LeO.ite ?_ ?_ | refine LeO.bind ?_ (fun _ => ?_)
theorem spec_l4Vector.mono : ∀ a0 a1 a2 k, LeO (spec_l4Vector.f k a0 a1 a2) (spec_l4Vector.f (k + 1) a0 a1 a2) := by
  intro a0 a1 a2 k
  have ih0 := spec_l4Vector.mono_l k
  unfold spec_l4Vector.f
  with_reducible repeat' first | exact ih0 _ _ _ _ | exact spec_FormValid.mono _ _ | exact LeO.refl _ | exact LeO.none _ | refine LeO.ite ?_ ?_ | refine LeO.bind ?_ (fun _ => ?_)
set_option maxHeartbeats 8000000 in
set_option maxRecDepth 100000 in
theorem spec_l4Vector.calls (k : Nat) (A0 : Option Addr) (c0 : Nat) (l0 : List Int) (A1 : Option Addr) (c1 : Nat) (l1 : List Int) (a2 : Int) (r : Bool) (w : World) (hr0 : Kd.C (Kd.int .i64) w A0 l0.length l0) (hc0 : l0.length ≤ c0) (hr1 : Kd.C (Kd.int .i64) w A1 l1.length l1) (hc1 : l1.length ≤ c1) (h : spec_l4Vector.f k l0 l1 a2 = some r) :
    Calls Try.prog 67 #[.slice A0 l0.length c0, .slice A1 l1.length c1, .int .i64 a2] w fun e w' => e = .returned (.bool r) ∧ Drawn0 w w' := by
  have HR0 := Aside0.mk hr0; have HC0 := Aside0.mk hc0; clear hr0 hc0; have HR1 := Aside0.mk hr1; have HC1 := Aside0.mk hc1; clear hr1 hc1; unfold spec_l4Vector.f at h; have H := h; clear h; have H' := Aside0.mk H; clear H; go_enter Try.func67, Try.ntmps67
  go_wp2
  go_loopg [7] k (fun kq v7 w' => ∃ (x7_1 : Int), v7 = .int .i64 x7_1 ∧ Aside0 (spec_l4Vector.l0 kq l0 l1 a2 x7_1 = some r) ∧ Aside0 (kq ≤ k) ∧ Drawn0 w w')
  case atStart => exact ⟨(0), sR, H', ⟨Nat.le_refl _⟩, by repeat (first | exact Drawn0.refl _ | apply Drawn0.step)⟩
  case round =>
    clear H'; obtain ⟨x7_1, rfl, HA, HK1, ⟨m1, rfl⟩⟩ := hrel; cases gk with
    | zero => exact absurd HA.out (by simp [spec_l4Vector.l0])
    | succ k1 =>
      have H := HA.out; clear HA; simp only [spec_l4Vector.l0] at H
      by_cases c4 : x7_1 < (l1.length : Int)
      · rw [if_pos c4] at H
        have c4b0 : decide (x7_1 < (l1.length : Int)) = true := decide_eq_true c4; clear c4; obtain ⟨c5, H⟩ := ifN H; have c5b0 : decide (0 ≤ x7_1) = true := decide_eq_true c5; clear c5; obtain ⟨t326, A6, H⟩ := bnd H
        by_cases c7 : t326 = true
        · subst c7
          replace H := ifT H; have H' := Aside0.mk H; clear H; have p325 : 0 ≤ (x7_1 : Int) := oD; have q325 : x7_1 < (l1.length : Int) := oD; obtain ⟨ad325, e325, hx325_0⟩ := Kd.at_int HR1.out x7_1 p325 q325; cases e325; replace p325 := eq_true p325; replace q325 := eq_true q325
          go_wp2_with (first | ((with_reducible refine gate_callee (f := 86) rfl ?_); refine goesK (some 21) Try.func86 #[.int .i64 (rd l1 x7_1), .int .i64 (wrap64 (-a2)), .int .i64 a2] ?_; (with_reducible refine (spec_l6In.calls (rd l1 x7_1) (wrap64 (-a2)) a2 true _ A6.out).mono ?_); rintro e w' ⟨rfl, ⟨nd, rfl⟩⟩; refine ⟨_, rfl, ?_⟩))
          go_roundg k1
          case measure => have := HK1.out; omega
          case rel => exact ⟨(wrap64 (x7_1 + 1)), sR, H', ⟨by have := HK1.out; omega⟩, by repeat (first | exact Drawn0.refl _ | apply Drawn0.step)⟩
        replace c7 := Bool.eq_false_iff.mpr c7; subst c7; replace H := ifF H; obtain rfl := Option.some.inj H; have p325 : 0 ≤ (x7_1 : Int) := oD; have q325 : x7_1 < (l1.length : Int) := oD; obtain ⟨ad325, e325, hx325_0⟩ := Kd.at_int HR1.out x7_1 p325 q325; cases e325; replace p325 := eq_true p325; replace q325 := eq_true q325
        go_wp2_with (first | ((with_reducible refine gate_callee (f := 86) rfl ?_); refine goesK (some 21) Try.func86 #[.int .i64 (rd l1 x7_1), .int .i64 (wrap64 (-a2)), .int .i64 a2] ?_; (with_reducible refine (spec_l6In.calls (rd l1 x7_1) (wrap64 (-a2)) a2 false _ A6.out).mono ?_); rintro e w' ⟨rfl, ⟨nd, rfl⟩⟩; refine ⟨_, rfl, ?_⟩))
        go_ret
        exact ⟨by first | rfl | (simp; done) | (simp [*]; done), by repeat (first | exact Drawn0.refl _ | apply Drawn0.step)⟩
      rw [if_neg c4] at H; have c4b0 : decide (x7_1 < (l1.length : Int)) = false := decide_eq_false c4; clear c4; obtain ⟨t327, A8, H⟩ := bnd H
      by_cases c9 : t327 = true
      · subst c9
        replace H := ifT H; obtain rfl := Option.some.inj H
        go_wp2_with (first | ((with_reducible refine gate_callee (f := 85) rfl ?_); refine goesK (some 24) Try.func85 #[.slice A0 l0.length c0] ?_; (with_reducible refine (spec_FormValid.calls k1 _ _ l0 true _ ?side1 ?side2 A8.out).mono ?_); (case side1 => exact U HR0.out); (case side2 => exact HC0.out); rintro e w' ⟨rfl, ⟨nd, rfl⟩⟩; refine ⟨_, rfl, ?_⟩))
        go_ret
        exact ⟨by first | rfl | (simp; done) | (simp [*]; done), by repeat (first | exact Drawn0.refl _ | apply Drawn0.step)⟩
      replace c9 := Bool.eq_false_iff.mpr c9; subst c9; replace H := ifF H; obtain rfl := Option.some.inj H
      go_wp2_with (first | ((with_reducible refine gate_callee (f := 85) rfl ?_); refine goesK (some 24) Try.func85 #[.slice A0 l0.length c0] ?_; (with_reducible refine (spec_FormValid.calls k1 _ _ l0 false _ ?side1 ?side2 A8.out).mono ?_); (case side1 => exact U HR0.out); (case side2 => exact HC0.out); rintro e w' ⟨rfl, ⟨nd, rfl⟩⟩; refine ⟨_, rfl, ?_⟩))
      go_ret
      exact ⟨by first | rfl | (simp; done) | (simp [*]; done), by repeat (first | exact Drawn0.refl _ | apply Drawn0.step)⟩

end Go.Proofs.Ytnbeeogmaamgdaa.PFnSplitMove
