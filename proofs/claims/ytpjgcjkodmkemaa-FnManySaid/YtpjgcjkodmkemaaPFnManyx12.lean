-- Written by a program of this session (wip/print2.py): the functions that the law reaches, plain, and the walks.
import Derived.Test.YtpjgcjkodmkemaaPFnManyx0
import Derived.Test.YtpjgcjkodmkemaaPFnManyx1
import Derived.Test.YtpjgcjkodmkemaaPFnManyx3
import Derived.Test.YtpjgcjkodmkemaaPFnManyx10
import Derived.Test.YtpjgcjkodmkemaaPFnManyx11
namespace Go.Proofs.Ytpjgcjkodmkemaa.PFnMany
open Go.RowKit Go.Proofs.YtpjgcjkodmkemaaW.PrintWords Go.Proofs.YtpjgcjkodmkemaaW.PrintLast Go.Proofs.YtpjgcjkodmkemaaW.PrintMore
attribute [local go_sem] max2_int min2_int max_two min_two max_three min_three max_four min_four   -- for this text's walks alone
set_option linter.unusedVariables false
set_option linter.unusedSimpArgs false

/-! ### impl_ZeroSearch: function 46 -/
mutual
def impl_ZeroSearch.l0 : Nat → List Int → List Int → Int → Int → Option (List Int × Bool)
  | 0, _, _, _, _ => none
  | k + 1, x0, x22, x23, x24 => if x24 < x23 then (if 0 ≤ x24 then (if x24 < (x22.length : Int) then (if (rd x22 x24) = 0 then (impl_ZeroSearch.j1 k x0 (rd x22 x24) x22 x23 x24 true) else ((impl_size.f (rd x22 x24)).bind fun t353 => (impl_ZeroSearch.j1 k x0 (rd x22 x24) x22 x23 x24 (decide (t353 > 30000))))) else (none)) else (none)) else ((impl_sharedPrime.f k x0).bind fun bt356 => (if bt356.2.2 = 0 then ((impl_product.f k x0).bind fun t359 => ((impl_size.f t359).bind fun t360 => (impl_ZeroSearch.j2 k x0 (decide (t360 > 30000))))) else (impl_ZeroSearch.j2 k x0 true)))
def impl_ZeroSearch.j1 : Nat → List Int → Int → List Int → Int → Int → Bool → Option (List Int × Bool)
  | 0, _, _, _, _, _, _ => none
  | k + 1, x0, x5, x22, x23, x24, x34 => if x34 = true then (some (([] : List Int), false)) else ((impl_coreOf.f k x5).bind fun bt354 => (if bt354.2 = 1 then (impl_ZeroSearch.l0 k x0 x22 x23 (wrap64 (x24 + 1))) else (some (([] : List Int), false))))
def impl_ZeroSearch.j2 : Nat → List Int → Bool → Option (List Int × Bool)
  | 0, _, _ => none
  | k + 1, x0, x56 => if x56 = true then (some (([] : List Int), false)) else (if 0 < (x0.length : Int) then (if 1 < (x0.length : Int) then (if 2 < (x0.length : Int) then (impl_ZeroSearch.l1 k (rd x0 0) (rd x0 1) (rd x0 2) 0) else (none)) else (none)) else (none))
def impl_ZeroSearch.l1 : Nat → Int → Int → Int → Int → Option (List Int × Bool)
  | 0, _, _, _, _ => none
  | k + 1, x11, x12, x13, x14 => (impl_size.f (wrap64 (x12 * x13))).bind fun t364 => (if (wrap64 (x14 * x14)) ≤ t364 then (impl_ZeroSearch.l2 k x11 x12 x13 x14 0) else (some (([] : List Int), false)))
def impl_ZeroSearch.l2 : Nat → Int → Int → Int → Int → Int → Option (List Int × Bool)
  | 0, _, _, _, _, _ => none
  | k + 1, x11, x12, x13, x14, x15 => (impl_size.f (wrap64 (x11 * x13))).bind fun t365 => (if (wrap64 (x15 * x15)) ≤ t365 then (if x13 = 0 then (none) else (if (Int.tmod (wrap64 ((wrap64 ((wrap64 ((wrap64 (-x11)) * x14)) * x14)) - (wrap64 ((wrap64 (x12 * x15)) * x15)))) x13) = 0 then ((impl_squareRoot.f k (wrap64 (Int.tdiv (wrap64 ((wrap64 ((wrap64 ((wrap64 (-x11)) * x14)) * x14)) - (wrap64 ((wrap64 (x12 * x15)) * x15)))) x13))).bind fun bt366 => (if bt366.2 = true then (if x14 = 0 then (if x15 = 0 then (if bt366.1 = 0 then (impl_ZeroSearch.l2 k x11 x12 x13 x14 (wrap64 (x15 + 1))) else (some ((([x14, x15, bt366.1] : List Int)), true))) else (some ((([x14, x15, bt366.1] : List Int)), true))) else (some ((([x14, x15, bt366.1] : List Int)), true))) else (impl_ZeroSearch.l2 k x11 x12 x13 x14 (wrap64 (x15 + 1))))) else (impl_ZeroSearch.l2 k x11 x12 x13 x14 (wrap64 (x15 + 1))))) else (impl_ZeroSearch.l1 k x11 x12 x13 (wrap64 (x14 + 1))))
end
def impl_ZeroSearch.f (k : Nat) (l0 : List Int) : Option (List Int × Bool) := if (l0.length : Int) = 3 then (impl_ZeroSearch.l0 k l0 l0 (l0.length : Int) 0) else (some (([] : List Int), false))
theorem impl_ZeroSearch.mono_l : ∀ k, (∀ y0 y1 y2 y3, LeO (impl_ZeroSearch.l0 k y0 y1 y2 y3) (impl_ZeroSearch.l0 (k + 1) y0 y1 y2 y3)) ∧ (∀ y0 y1 y2 y3 y4 y5, LeO (impl_ZeroSearch.j1 k y0 y1 y2 y3 y4 y5) (impl_ZeroSearch.j1 (k + 1) y0 y1 y2 y3 y4 y5)) ∧ (∀ y0 y1, LeO (impl_ZeroSearch.j2 k y0 y1) (impl_ZeroSearch.j2 (k + 1) y0 y1)) ∧ (∀ y0 y1 y2 y3, LeO (impl_ZeroSearch.l1 k y0 y1 y2 y3) (impl_ZeroSearch.l1 (k + 1) y0 y1 y2 y3)) ∧ (∀ y0 y1 y2 y3 y4, LeO (impl_ZeroSearch.l2 k y0 y1 y2 y3 y4) (impl_ZeroSearch.l2 (k + 1) y0 y1 y2 y3 y4))
  | 0 => ⟨fun _ _ _ _ r h => by simp [impl_ZeroSearch.l0] at h, fun _ _ _ _ _ _ r h => by simp [impl_ZeroSearch.j1] at h, fun _ _ r h => by simp [impl_ZeroSearch.j2] at h, fun _ _ _ _ r h => by simp [impl_ZeroSearch.l1] at h, fun _ _ _ _ _ r h => by simp [impl_ZeroSearch.l2] at h⟩
  | k + 1 => by
    obtain ⟨ih0, ih1, ih2, ih3, ih4⟩ := impl_ZeroSearch.mono_l k
    refine ⟨?_, ?_, ?_, ?_, ?_⟩ <;> intros <;> (first | unfold impl_ZeroSearch.l0 | unfold impl_ZeroSearch.j1 | unfold impl_ZeroSearch.j2 | unfold impl_ZeroSearch.l1 | unfold impl_ZeroSearch.l2) <;> (repeat' first
      | (with_reducible exact ih0 _ _ _ _)
      | (with_reducible exact ih1 _ _ _ _ _ _)
      | (with_reducible exact ih2 _ _)
      | (with_reducible exact ih3 _ _ _ _)
      | (with_reducible exact ih4 _ _ _ _ _)
      | (with_reducible exact impl_coreOf.mono _ _)
      | (with_reducible exact impl_product.mono _ _)
      | (with_reducible exact impl_sharedPrime.mono _ _)
      | (with_reducible exact impl_squareRoot.mono _ _)
      | (with_reducible exact LeO.refl _)
      | (with_reducible exact LeO.none _)
      | (with_reducible refine LeO.ite ?_ ?_)
      | (with_reducible refine LeO.bind ?_ (fun _ => ?_))
      | exact ih0 _ _ _ _
      | exact ih1 _ _ _ _ _ _
      | exact ih2 _ _
      | exact ih3 _ _ _ _
      | exact ih4 _ _ _ _ _
      | exact impl_coreOf.mono _ _
      | exact impl_product.mono _ _
      | exact impl_sharedPrime.mono _ _
      | exact impl_squareRoot.mono _ _
      | exact LeO.none _
      | refine LeO.ite ?_ ?_
      | refine LeO.bind ?_ (fun _ => ?_))
theorem impl_ZeroSearch.mono : ∀ a0 k, LeO (impl_ZeroSearch.f k a0) (impl_ZeroSearch.f (k + 1) a0) := by
  intro a0 k
  obtain ⟨ih0, ih1, ih2, ih3, ih4⟩ := impl_ZeroSearch.mono_l k
  unfold impl_ZeroSearch.f
  repeat' first
      | (with_reducible exact ih0 _ _ _ _)
      | (with_reducible exact ih1 _ _ _ _ _ _)
      | (with_reducible exact ih2 _ _)
      | (with_reducible exact ih3 _ _ _ _)
      | (with_reducible exact ih4 _ _ _ _ _)
      | (with_reducible exact impl_coreOf.mono _ _)
      | (with_reducible exact impl_product.mono _ _)
      | (with_reducible exact impl_sharedPrime.mono _ _)
      | (with_reducible exact impl_squareRoot.mono _ _)
      | (with_reducible exact LeO.refl _)
      | (with_reducible exact LeO.none _)
      | (with_reducible refine LeO.ite ?_ ?_)
      | (with_reducible refine LeO.bind ?_ (fun _ => ?_))
      | exact ih0 _ _ _ _
      | exact ih1 _ _ _ _ _ _
      | exact ih2 _ _
      | exact ih3 _ _ _ _
      | exact ih4 _ _ _ _ _
      | exact impl_coreOf.mono _ _
      | exact impl_product.mono _ _
      | exact impl_sharedPrime.mono _ _
      | exact impl_squareRoot.mono _ _
      | exact LeO.none _
      | refine LeO.ite ?_ ?_
      | refine LeO.bind ?_ (fun _ => ?_)
set_option maxHeartbeats 8000000 in
set_option maxRecDepth 100000 in
theorem impl_ZeroSearch.calls (k : Nat) (A0 : Option Addr) (c0 : Nat) (l0 : List Int) (r1 : List Int) (r2 : Bool) (w : World) (hr0 : Kd.C (Kd.int .i64) w A0 l0.length l0) (hc0 : l0.length ≤ c0) (h : impl_ZeroSearch.f k l0 = some (r1, r2)) :
    Calls Try.prog 46 #[.slice A0 l0.length c0] w fun e w' => ∃ v0_ : Value, e = .returned (.tuple #[v0_, .bool r2]) ∧ Kd.R (Kd.int .i64) 3 w' w.heap.size (fun _ => True) v0_ r1 ∧ Below w.heap.size w w' := by
  have HR0 := Aside0.mk hr0; have HC0 := Aside0.mk hc0; clear hr0 hc0; have HB := Aside0.mk (Below.refl w.heap.size w); unfold impl_ZeroSearch.f at h; have H := h; clear h
  by_cases c2 : (l0.length : Int) = 3
  · rw [if_pos c2] at H
    have c2b0 : ((l0.length : Int) == 3) = true := beq_iff_eq.mpr c2; have c2b1 : ((l0.length : Int) != 3) = false := bne_eq_false_iff_eq.mpr c2; clear c2; have H' := Aside0.mk H; clear H; go_enter Try.func46, Try.ntmps46
    go_wp2
    repeat (go_quiet (fail); try go_wp2)
    go_loopg [24] k (fun kq v24 w' => ∃ (x24_1 : Int), v24 = .int .i64 x24_1 ∧ Aside0 (impl_ZeroSearch.l0 kq l0 l0 (l0.length : Int) x24_1 = some (r1, r2)) ∧ Aside0 (kq ≤ k) ∧ Aside0 (Below w.heap.size w w'))
    case atStart => exact ⟨(0), sR, H', ⟨Nat.le_refl _⟩, ⟨BU⟩⟩
    case round =>
      clear H'; (try clear c2); (try clear c2b0); (try clear c2b1); obtain ⟨x24_1, rfl, HA, HK1, HB⟩ := hrel; cases gk with
      | zero => exact absurd HA.out (by simp [impl_ZeroSearch.l0])
      | succ k1 =>
        have H := HA.out; clear HA; simp only [impl_ZeroSearch.l0] at H
        by_cases c3 : x24_1 < (l0.length : Int)
        · rw [if_pos c3] at H
          have c3b0 : decide (x24_1 < (l0.length : Int)) = true := decide_eq_true c3; clear c3; obtain ⟨c4, H⟩ := ifN H; have c4b0 : decide (0 ≤ x24_1) = true := decide_eq_true c4; clear c4; obtain ⟨c5, H⟩ := ifN H; have c5b0 : decide (x24_1 < (l0.length : Int)) = true := decide_eq_true c5; clear c5; have HC6 := Aside0.mk H; clear H; have p352 : 0 ≤ (x24_1 : Int) := oD; have q352 : x24_1 < (l0.length : Int) := oD; obtain ⟨ad352, e352, hx352_0⟩ := Kd.at_int HR0.out x24_1 p352 q352; cases e352; replace hx352_0 := (HB.out.cell (World.block_lt_of_cell? w _ hx352_0)).trans hx352_0; replace p352 := eq_true p352; replace q352 := eq_true q352
          go_upto_region 6 with (fail)
          repeat (go_quiet (fail); go_upto_region 6 with (fail))
          go_cut [34] (fun v34 wc => ∃ (kq : Nat) (x34_5 : Bool), v34 = .bool x34_5 ∧ Aside0 (impl_ZeroSearch.j1 kq l0 (rd l0 x24_1) l0 (l0.length : Int) x24_1 x34_5 = some (r1, r2)) ∧ Aside0 (kq ≤ k1) ∧ Aside0 (Below w.heap.size w wc))
          case first =>
            have H := HC6.out; clear HC6
            by_cases c7 : (rd l0 x24_1) = 0
            · rw [if_pos c7] at H
              have c7b0 : ((rd l0 x24_1) == 0) = true := beq_iff_eq.mpr c7; have c7b1 : ((rd l0 x24_1) != 0) = false := bne_eq_false_iff_eq.mpr c7; clear c7
              (first | rw [c7b0] | (simp only [i64_w, i32_w]; rw [c7b0]) | skip)
              have H' := Aside0.mk H; clear H
              go_wp2
              repeat (go_quiet (fail); try go_wp2)
              go_meet
              case rel => exact ⟨_, (true), sR, H', ⟨by have := HK1.out; first | omega | exact Nat.le_refl _⟩, ⟨BU⟩⟩
            rw [if_neg c7] at H; have c7b0 : ((rd l0 x24_1) == 0) = false := beq_eq_false_iff_ne.mpr c7; have c7b1 : ((rd l0 x24_1) != 0) = true := bne_iff_ne.mpr c7
            (first | rw [c7b0] | (simp only [i64_w, i32_w]; rw [c7b0]) | skip)
            obtain ⟨t353, A8, H⟩ := bnd H; have H' := Aside0.mk H; clear H
            go_wp2_with (first | (go_at_call 48; (with_reducible refine (impl_size.calls (rd l0 x24_1) t353 _ A8.out).mono ?_); rintro e w9 ⟨rfl, hb⟩; replace HB := BS hb; (try clear hb)))
            repeat (go_quiet (first | (go_at_call 48; (with_reducible refine (impl_size.calls (rd l0 x24_1) t353 _ A8.out).mono ?_); rintro e w9 ⟨rfl, hb⟩; replace HB := BS hb; (try clear hb))); try go_wp2_with (first | (go_at_call 48; (with_reducible refine (impl_size.calls (rd l0 x24_1) t353 _ A8.out).mono ?_); rintro e w9 ⟨rfl, hb⟩; replace HB := BS hb; (try clear hb))))
            go_meet
            case rel => exact ⟨_, (decide (t353 > 30000)), sR, H', ⟨by have := HK1.out; first | omega | exact Nat.le_refl _⟩, ⟨BU⟩⟩
          case rest =>
            clear HC6; (try clear c2); (try clear c2b0); (try clear c2b1); (try clear c3); (try clear c3b0); (try clear c4); (try clear c4b0); (try clear c5); (try clear c5b0); (try clear hx352_0); (try clear p352); (try clear q352); obtain ⟨kq, x34_5, rfl, HA, HJ5, HB⟩ := hcut; cases kq with
            | zero => exact absurd HA.out (by simp [impl_ZeroSearch.j1])
            | succ kj5 =>
              have H := HA.out; clear HA; simp only [impl_ZeroSearch.j1] at H
              by_cases c10 : x34_5 = true
              · subst c10
                replace H := ifT H; simp only [Option.some.injEq, Prod.mk.injEq] at H; obtain ⟨rfl, rfl⟩ := H
                go_wp2
                repeat (go_quiet (fail); try go_wp2)
                go_ret2
                exact ⟨_, eR, by first | exact Kd.R_nil _ _ _ _ _ | exact Kd.N_nil _ _ _ _ _ | exact Kd.V_nil _ _ _ _ _ | exact Kd.Q_nil _ _ _ _ _ | exact Kd.S_nil _ _ _ _ _, BU⟩
              replace c10 := Bool.eq_false_iff.mpr c10; subst c10; replace H := ifF H; obtain ⟨⟨t354, t355⟩, A11, H⟩ := bnd H; replace H : (if t355 = 1 then (impl_ZeroSearch.l0 kj5 l0 l0 (l0.length : Int) (wrap64 (x24_1 + 1))) else (some (([] : List Int), false))) = some (r1, r2) := H
              by_cases c12 : t355 = 1
              · rw [if_pos c12] at H
                have c12b0 : (t355 == 1) = true := beq_iff_eq.mpr c12; have c12b1 : (t355 != 1) = false := bne_eq_false_iff_eq.mpr c12; clear c12; have H' := Aside0.mk H; clear H
                go_wp2_with (first | (go_at_call 44; (with_reducible refine (impl_coreOf.calls kj5 (rd l0 x24_1) t354 t355 _ A11.out).mono ?_); rintro e w13 ⟨rfl, hb⟩; replace HB := BS hb; (try clear hb)))
                repeat (go_quiet (first | (go_at_call 44; (with_reducible refine (impl_coreOf.calls kj5 (rd l0 x24_1) t354 t355 _ A11.out).mono ?_); rintro e w13 ⟨rfl, hb⟩; replace HB := BS hb; (try clear hb))); try go_wp2_with (first | (go_at_call 44; (with_reducible refine (impl_coreOf.calls kj5 (rd l0 x24_1) t354 t355 _ A11.out).mono ?_); rintro e w13 ⟨rfl, hb⟩; replace HB := BS hb; (try clear hb))))
                go_roundg kj5
                case measure => have := HK1.out; have := HJ5.out; omega
                case rel => exact ⟨(wrap64 (x24_1 + 1)), sR, H', ⟨by have := HK1.out; have := HJ5.out; omega⟩, ⟨BU⟩⟩
              rw [if_neg c12] at H; have c12b0 : (t355 == 1) = false := beq_eq_false_iff_ne.mpr c12; have c12b1 : (t355 != 1) = true := bne_iff_ne.mpr c12; simp only [Option.some.injEq, Prod.mk.injEq] at H; obtain ⟨rfl, rfl⟩ := H
              go_wp2_with (first | (go_at_call 44; (with_reducible refine (impl_coreOf.calls kj5 (rd l0 x24_1) t354 t355 _ A11.out).mono ?_); rintro e w14 ⟨rfl, hb⟩; replace HB := BS hb; (try clear hb)))
              repeat (go_quiet (first | (go_at_call 44; (with_reducible refine (impl_coreOf.calls kj5 (rd l0 x24_1) t354 t355 _ A11.out).mono ?_); rintro e w14 ⟨rfl, hb⟩; replace HB := BS hb; (try clear hb))); try go_wp2_with (first | (go_at_call 44; (with_reducible refine (impl_coreOf.calls kj5 (rd l0 x24_1) t354 t355 _ A11.out).mono ?_); rintro e w14 ⟨rfl, hb⟩; replace HB := BS hb; (try clear hb))))
              go_ret2
              exact ⟨_, eR, by first | exact Kd.R_nil _ _ _ _ _ | exact Kd.N_nil _ _ _ _ _ | exact Kd.V_nil _ _ _ _ _ | exact Kd.Q_nil _ _ _ _ _ | exact Kd.S_nil _ _ _ _ _, BU⟩
        rw [if_neg c3] at H; have c3b0 : decide (x24_1 < (l0.length : Int)) = false := decide_eq_false c3; clear c3; obtain ⟨⟨t356, t357, t358⟩, A15, H⟩ := bnd H
        replace H : (if t358 = 0 then ((impl_product.f k1 l0).bind fun t359 => ((impl_size.f t359).bind fun t360 => (impl_ZeroSearch.j2 k1 l0 (decide (t360 > 30000))))) else (impl_ZeroSearch.j2 k1 l0 true)) = some (r1, r2) := H
        have HC16 := Aside0.mk H; clear H
        go_upto_region 13 with (first | (go_at_call 66; (with_reducible refine (impl_sharedPrime.calls k1 _ _ l0 t356 t357 t358 _ ?side1 ?side2 A15.out).mono ?_); (case side1 => exact U (Kd.C_below HR0.out HB.out)); (case side2 => exact HC0.out); rintro e w17 ⟨rfl, hb⟩; replace HB := BS hb; (try clear hb)))
        repeat (go_quiet (first | (go_at_call 66; (with_reducible refine (impl_sharedPrime.calls k1 _ _ l0 t356 t357 t358 _ ?side1 ?side2 A15.out).mono ?_); (case side1 => exact U (Kd.C_below HR0.out HB.out)); (case side2 => exact HC0.out); rintro e w17 ⟨rfl, hb⟩; replace HB := BS hb; (try clear hb))); go_upto_region 13 with (first | (go_at_call 66; (with_reducible refine (impl_sharedPrime.calls k1 _ _ l0 t356 t357 t358 _ ?side1 ?side2 A15.out).mono ?_); (case side1 => exact U (Kd.C_below HR0.out HB.out)); (case side2 => exact HC0.out); rintro e w17 ⟨rfl, hb⟩; replace HB := BS hb; (try clear hb))))
        (try simp only [Act.put, List.setIfInBounds_toArray, List.set_cons_zero, List.set_cons_succ])
        go_cut [56] (fun v56 wc => ∃ (kq : Nat) (x56_15 : Bool), v56 = .bool x56_15 ∧ Aside0 (impl_ZeroSearch.j2 kq l0 x56_15 = some (r1, r2)) ∧ Aside0 (kq ≤ k1) ∧ Aside0 (Below w.heap.size w wc))
        case first =>
          have H := HC16.out; clear HC16
          by_cases c18 : t358 = 0
          · rw [if_pos c18] at H
            have c18b0 : (t358 == 0) = true := beq_iff_eq.mpr c18; have c18b1 : (t358 != 0) = false := bne_eq_false_iff_eq.mpr c18; clear c18
            (first | rw [c18b0] | (simp only [i64_w, i32_w]; rw [c18b0]) | skip)
            obtain ⟨t359, A19, H⟩ := bnd H; obtain ⟨t360, A20, H⟩ := bnd H; have H' := Aside0.mk H; clear H
            go_wp2_with (first | (go_at_call 55; (with_reducible refine (impl_product.calls k1 _ _ l0 t359 _ ?side1 ?side2 A19.out).mono ?_); (case side1 => exact U (Kd.C_below HR0.out HB.out)); (case side2 => exact HC0.out); rintro e w' ⟨rfl, ⟨nd, rfl⟩⟩; (try first | exact ⟨rfl, _, World.drewN_drewN _ _ _⟩ | exact ⟨rfl, _, Eq.trans (World.drewN_drewN _ _ _) (congrArg (World.drewN _) (Nat.add_assoc _ _ _))⟩)) | (go_at_call 48; (with_reducible refine (impl_size.calls t359 t360 _ A20.out).mono ?_); rintro e w21 ⟨rfl, hb⟩; replace HB := BS hb; (try clear hb)))
            repeat (go_quiet (first | (go_at_call 55; (with_reducible refine (impl_product.calls k1 _ _ l0 t359 _ ?side1 ?side2 A19.out).mono ?_); (case side1 => exact U (Kd.C_below HR0.out HB.out)); (case side2 => exact HC0.out); rintro e w' ⟨rfl, ⟨nd, rfl⟩⟩; (try first | exact ⟨rfl, _, World.drewN_drewN _ _ _⟩ | exact ⟨rfl, _, Eq.trans (World.drewN_drewN _ _ _) (congrArg (World.drewN _) (Nat.add_assoc _ _ _))⟩)) | (go_at_call 48; (with_reducible refine (impl_size.calls t359 t360 _ A20.out).mono ?_); rintro e w21 ⟨rfl, hb⟩; replace HB := BS hb; (try clear hb))); try go_wp2_with (first | (go_at_call 55; (with_reducible refine (impl_product.calls k1 _ _ l0 t359 _ ?side1 ?side2 A19.out).mono ?_); (case side1 => exact U (Kd.C_below HR0.out HB.out)); (case side2 => exact HC0.out); rintro e w' ⟨rfl, ⟨nd, rfl⟩⟩; (try first | exact ⟨rfl, _, World.drewN_drewN _ _ _⟩ | exact ⟨rfl, _, Eq.trans (World.drewN_drewN _ _ _) (congrArg (World.drewN _) (Nat.add_assoc _ _ _))⟩)) | (go_at_call 48; (with_reducible refine (impl_size.calls t359 t360 _ A20.out).mono ?_); rintro e w21 ⟨rfl, hb⟩; replace HB := BS hb; (try clear hb))))
            go_meet
            case rel => exact ⟨_, (decide (t360 > 30000)), sR, H', ⟨by have := HK1.out; first | omega | exact Nat.le_refl _⟩, ⟨BU⟩⟩
          rw [if_neg c18] at H; have c18b0 : (t358 == 0) = false := beq_eq_false_iff_ne.mpr c18; have c18b1 : (t358 != 0) = true := bne_iff_ne.mpr c18
          (first | rw [c18b0] | (simp only [i64_w, i32_w]; rw [c18b0]) | skip)
          have H' := Aside0.mk H; clear H
          go_wp2
          repeat (go_quiet (fail); try go_wp2)
          go_meet
          case rel => exact ⟨_, (true), sR, H', ⟨by have := HK1.out; first | omega | exact Nat.le_refl _⟩, ⟨BU⟩⟩
        case rest =>
          clear HC16; (try clear c2); (try clear c2b0); (try clear c2b1); (try clear c3); (try clear c3b0); obtain ⟨kq, x56_15, rfl, HA, HJ15, HB⟩ := hcut; cases kq with
          | zero => exact absurd HA.out (by simp [impl_ZeroSearch.j2])
          | succ kj15 =>
            have H := HA.out; clear HA; simp only [impl_ZeroSearch.j2] at H
            by_cases c22 : x56_15 = true
            · subst c22
              replace H := ifT H; simp only [Option.some.injEq, Prod.mk.injEq] at H; obtain ⟨rfl, rfl⟩ := H
              go_wp2
              repeat (go_quiet (fail); try go_wp2)
              go_ret2
              exact ⟨_, eR, by first | exact Kd.R_nil _ _ _ _ _ | exact Kd.N_nil _ _ _ _ _ | exact Kd.V_nil _ _ _ _ _ | exact Kd.Q_nil _ _ _ _ _ | exact Kd.S_nil _ _ _ _ _, BU⟩
            replace c22 := Bool.eq_false_iff.mpr c22; subst c22; replace H := ifF H; obtain ⟨c23, H⟩ := ifN H; have c23b0 : decide (0 < (l0.length : Int)) = true := decide_eq_true c23; have c23b1 : decide (0 < l0.length) = true := decide_eq_true (by omega); clear c23; obtain ⟨c24, H⟩ := ifN H; have c24b0 : decide (1 < (l0.length : Int)) = true := decide_eq_true c24; have c24b1 : decide (1 < l0.length) = true := decide_eq_true (by omega); clear c24; obtain ⟨c25, H⟩ := ifN H; have c25b0 : decide (2 < (l0.length : Int)) = true := decide_eq_true c25; have c25b1 : decide (2 < l0.length) = true := decide_eq_true (by omega); clear c25; have H' := Aside0.mk H; clear H; have p361 : 0 ≤ (0 : Int) := (by omega); have q361 : 0 < (l0.length : Int) := oD; obtain ⟨ad361, e361, hx361_0⟩ := Kd.at_int HR0.out 0 p361 q361; cases e361; have qi361 : (0 < l0.length) = True := eq_true (by omega)
            (try rw [show ((0 : Int)).toNat = 0 from rfl] at hx361_0)
            (try rw [Addr.add_zero'] at hx361_0)
            replace hx361_0 := (HB.out.cell (World.block_lt_of_cell? w _ hx361_0)).trans hx361_0; replace p361 := eq_true p361; replace q361 := eq_true q361; have p362 : 0 ≤ (1 : Int) := (by omega); have q362 : 1 < (l0.length : Int) := oD; obtain ⟨ad362, e362, hx362_0⟩ := Kd.at_int HR0.out 1 p362 q362; obtain rfl : ad361 = ad362 := (by injection e362)
            (try simp only [show (1 : Int).toNat = 1 from rfl, Nat.reduceMul, Nat.reduceEqDiff, Go.Addr.add, ↓reduceIte] at hx362_0)
            have qi362 : (1 < l0.length) = True := eq_true (by omega)
            (try rw [show ((1 : Int)).toNat = 1 from rfl] at hx362_0)
            replace hx362_0 := (HB.out.cell (World.block_lt_of_cell? w _ hx362_0)).trans hx362_0; replace p362 := eq_true p362; replace q362 := eq_true q362; have p363 : 0 ≤ (2 : Int) := (by omega); have q363 : 2 < (l0.length : Int) := oD; obtain ⟨ad363, e363, hx363_0⟩ := Kd.at_int HR0.out 2 p363 q363; obtain rfl : ad361 = ad363 := (by injection e363)
            (try simp only [show (2 : Int).toNat = 2 from rfl, Nat.reduceMul, Nat.reduceEqDiff, Go.Addr.add, ↓reduceIte] at hx363_0)
            have qi363 : (2 < l0.length) = True := eq_true (by omega)
            (try rw [show ((2 : Int)).toNat = 2 from rfl] at hx363_0)
            replace hx363_0 := (HB.out.cell (World.block_lt_of_cell? w _ hx363_0)).trans hx363_0; replace p363 := eq_true p363; replace q363 := eq_true q363
            go_wp2
            repeat (go_quiet (fail); try go_wp2)
            go_loopg [14] kj15 (fun kq v14 w' => ∃ (x14_3 : Int), v14 = .int .i64 x14_3 ∧ Aside0 (impl_ZeroSearch.l1 kq (rd l0 0) (rd l0 1) (rd l0 2) x14_3 = some (r1, r2)) ∧ Aside0 (kq ≤ kj15) ∧ Aside0 (Below w.heap.size w w'))
            case atStart => exact ⟨(0), sR, H', ⟨Nat.le_refl _⟩, ⟨BU⟩⟩
            case round =>
              clear H'; (try clear c2); (try clear c2b0); (try clear c2b1); (try clear c3); (try clear c3b0); (try clear c22); (try clear c23); (try clear c23b0); (try clear c23b1); (try clear c24); (try clear c24b0); (try clear c24b1); (try clear c25); (try clear c25b0); (try clear c25b1); (try clear hx361_0); (try clear hx362_0); (try clear hx363_0); (try clear p361); (try clear p362); (try clear p363); (try clear q361); (try clear q362); (try clear q363); obtain ⟨x14_3, rfl, HA, HK3, HB⟩ := hrel; cases gk with
              | zero => exact absurd HA.out (by simp [impl_ZeroSearch.l1])
              | succ k3 =>
                have H := HA.out; clear HA; simp only [impl_ZeroSearch.l1] at H; obtain ⟨t364, A26, H⟩ := bnd H
                by_cases c27 : (wrap64 (x14_3 * x14_3)) ≤ t364
                · rw [if_pos c27] at H
                  have c27b0 : decide ((wrap64 (x14_3 * x14_3)) ≤ t364) = true := decide_eq_true c27; clear c27; have H' := Aside0.mk H; clear H
                  go_wp2_with (first | (go_at_call 48; (with_reducible refine (impl_size.calls (wrap64 ((rd l0 1) * (rd l0 2))) t364 _ A26.out).mono ?_); rintro e w28 ⟨rfl, hb⟩; replace HB := BS hb; (try clear hb)))
                  repeat (go_quiet (first | (go_at_call 48; (with_reducible refine (impl_size.calls (wrap64 ((rd l0 1) * (rd l0 2))) t364 _ A26.out).mono ?_); rintro e w28 ⟨rfl, hb⟩; replace HB := BS hb; (try clear hb))); try go_wp2_with (first | (go_at_call 48; (with_reducible refine (impl_size.calls (wrap64 ((rd l0 1) * (rd l0 2))) t364 _ A26.out).mono ?_); rintro e w28 ⟨rfl, hb⟩; replace HB := BS hb; (try clear hb))))
                  go_loopg [15] k3 (fun kq v15 w' => ∃ (x15_4 : Int), v15 = .int .i64 x15_4 ∧ Aside0 (impl_ZeroSearch.l2 kq (rd l0 0) (rd l0 1) (rd l0 2) x14_3 x15_4 = some (r1, r2)) ∧ Aside0 (kq ≤ k3) ∧ Aside0 (Below w.heap.size w w'))
                  case atStart => exact ⟨(0), sR, H', ⟨Nat.le_refl _⟩, ⟨BU⟩⟩
                  case round =>
                    clear H'; (try clear c2); (try clear c2b0); (try clear c2b1); (try clear c3); (try clear c3b0); (try clear c22); (try clear c23); (try clear c23b0); (try clear c23b1); (try clear c24); (try clear c24b0); (try clear c24b1); (try clear c25); (try clear c25b0); (try clear c25b1); (try clear c27); (try clear c27b0); (try clear hx361_0); (try clear hx362_0); (try clear hx363_0); (try clear p361); (try clear p362); (try clear p363); (try clear q361); (try clear q362); (try clear q363); obtain ⟨x15_4, rfl, HA, HK4, HB⟩ := hrel; cases gk with
                    | zero => exact absurd HA.out (by simp [impl_ZeroSearch.l2])
                    | succ k4 =>
                      have H := HA.out; clear HA; simp only [impl_ZeroSearch.l2] at H; obtain ⟨t365, A29, H⟩ := bnd H
                      by_cases c30 : (wrap64 (x15_4 * x15_4)) ≤ t365
                      · rw [if_pos c30] at H
                        have c30b0 : decide ((wrap64 (x15_4 * x15_4)) ≤ t365) = true := decide_eq_true c30; clear c30; obtain ⟨c31, H⟩ := ifM H; have c31b0 : ((rd l0 2) == 0) = false := beq_eq_false_iff_ne.mpr c31; have c31b1 : ((rd l0 2) != 0) = true := bne_iff_ne.mpr c31
                        by_cases c32 : (Int.tmod (wrap64 ((wrap64 ((wrap64 ((wrap64 (-(rd l0 0))) * x14_3)) * x14_3)) - (wrap64 ((wrap64 ((rd l0 1) * x15_4)) * x15_4)))) (rd l0 2)) = 0
                        · rw [if_pos c32] at H
                          have c32b0 : ((Int.tmod (wrap64 ((wrap64 ((wrap64 ((wrap64 (-(rd l0 0))) * x14_3)) * x14_3)) - (wrap64 ((wrap64 ((rd l0 1) * x15_4)) * x15_4)))) (rd l0 2)) == 0) = true := beq_iff_eq.mpr c32; have c32b1 : ((Int.tmod (wrap64 ((wrap64 ((wrap64 ((wrap64 (-(rd l0 0))) * x14_3)) * x14_3)) - (wrap64 ((wrap64 ((rd l0 1) * x15_4)) * x15_4)))) (rd l0 2)) != 0) = false := bne_eq_false_iff_eq.mpr c32; clear c32; obtain ⟨⟨t366, t367⟩, A33, H⟩ := bnd H; replace H : (if t367 = true then (if x14_3 = 0 then (if x15_4 = 0 then (if t366 = 0 then (impl_ZeroSearch.l2 k4 (rd l0 0) (rd l0 1) (rd l0 2) x14_3 (wrap64 (x15_4 + 1))) else (some ((([x14_3, x15_4, t366] : List Int)), true))) else (some ((([x14_3, x15_4, t366] : List Int)), true))) else (some ((([x14_3, x15_4, t366] : List Int)), true))) else (impl_ZeroSearch.l2 k4 (rd l0 0) (rd l0 1) (rd l0 2) x14_3 (wrap64 (x15_4 + 1)))) = some (r1, r2) := H
                          by_cases c34 : t367 = true
                          · subst c34
                            replace H := ifT H
                            by_cases c35 : x14_3 = 0
                            · rw [if_pos c35] at H
                              have c35b0 : (x14_3 == 0) = true := beq_iff_eq.mpr c35; have c35b1 : (x14_3 != 0) = false := bne_eq_false_iff_eq.mpr c35; clear c35
                              by_cases c36 : x15_4 = 0
                              · rw [if_pos c36] at H
                                have c36b0 : (x15_4 == 0) = true := beq_iff_eq.mpr c36; have c36b1 : (x15_4 != 0) = false := bne_eq_false_iff_eq.mpr c36; clear c36
                                by_cases c37 : t366 = 0
                                · rw [if_pos c37] at H
                                  have c37b0 : (t366 == 0) = true := beq_iff_eq.mpr c37; have c37b1 : (t366 != 0) = false := bne_eq_false_iff_eq.mpr c37; clear c37; have H' := Aside0.mk H; clear H
                                  go_wp2_with (first | (go_at_call 48; (with_reducible refine (impl_size.calls (wrap64 ((rd l0 0) * (rd l0 2))) t365 _ A29.out).mono ?_); rintro e w38 ⟨rfl, hb⟩; replace HB := BS hb; (try clear hb)) | (go_at_call 67; (with_reducible refine (impl_squareRoot.calls k4 (wrap64 (Int.tdiv (wrap64 ((wrap64 ((wrap64 ((wrap64 (-(rd l0 0))) * x14_3)) * x14_3)) - (wrap64 ((wrap64 ((rd l0 1) * x15_4)) * x15_4)))) (rd l0 2))) t366 true _ A33.out).mono ?_); rintro e w' ⟨rfl, ⟨nd, rfl⟩⟩; (try first | exact ⟨rfl, _, World.drewN_drewN _ _ _⟩ | exact ⟨rfl, _, Eq.trans (World.drewN_drewN _ _ _) (congrArg (World.drewN _) (Nat.add_assoc _ _ _))⟩)))
                                  repeat (go_quiet (first | (go_at_call 48; (with_reducible refine (impl_size.calls (wrap64 ((rd l0 0) * (rd l0 2))) t365 _ A29.out).mono ?_); rintro e w38 ⟨rfl, hb⟩; replace HB := BS hb; (try clear hb)) | (go_at_call 67; (with_reducible refine (impl_squareRoot.calls k4 (wrap64 (Int.tdiv (wrap64 ((wrap64 ((wrap64 ((wrap64 (-(rd l0 0))) * x14_3)) * x14_3)) - (wrap64 ((wrap64 ((rd l0 1) * x15_4)) * x15_4)))) (rd l0 2))) t366 true _ A33.out).mono ?_); rintro e w' ⟨rfl, ⟨nd, rfl⟩⟩; (try first | exact ⟨rfl, _, World.drewN_drewN _ _ _⟩ | exact ⟨rfl, _, Eq.trans (World.drewN_drewN _ _ _) (congrArg (World.drewN _) (Nat.add_assoc _ _ _))⟩))); try go_wp2_with (first | (go_at_call 48; (with_reducible refine (impl_size.calls (wrap64 ((rd l0 0) * (rd l0 2))) t365 _ A29.out).mono ?_); rintro e w38 ⟨rfl, hb⟩; replace HB := BS hb; (try clear hb)) | (go_at_call 67; (with_reducible refine (impl_squareRoot.calls k4 (wrap64 (Int.tdiv (wrap64 ((wrap64 ((wrap64 ((wrap64 (-(rd l0 0))) * x14_3)) * x14_3)) - (wrap64 ((wrap64 ((rd l0 1) * x15_4)) * x15_4)))) (rd l0 2))) t366 true _ A33.out).mono ?_); rintro e w' ⟨rfl, ⟨nd, rfl⟩⟩; (try first | exact ⟨rfl, _, World.drewN_drewN _ _ _⟩ | exact ⟨rfl, _, Eq.trans (World.drewN_drewN _ _ _) (congrArg (World.drewN _) (Nat.add_assoc _ _ _))⟩))))
                                  go_roundg k4
                                  case measure => have := HK1.out; have := HJ15.out; have := HK3.out; have := HK4.out; omega
                                  case rel => exact ⟨(wrap64 (x15_4 + 1)), sR, H', ⟨by have := HK1.out; have := HJ15.out; have := HK3.out; have := HK4.out; omega⟩, ⟨BU⟩⟩
                                rw [if_neg c37] at H; have c37b0 : (t366 == 0) = false := beq_eq_false_iff_ne.mpr c37; have c37b1 : (t366 != 0) = true := bne_iff_ne.mpr c37; obtain ⟨y368, hy368⟩ : ∃ y_ : List Int, y_ = (([x14_3, x15_4, t366] : List Int)) := ⟨_, rfl⟩; replace H : (some (y368, true)) = some (r1, r2) := rH hy368 H; have Ny368 := Aside0.mk hy368; clear hy368; simp only [Option.some.injEq, Prod.mk.injEq] at H; obtain ⟨rfl, rfl⟩ := H
                                go_wp2_with (first | (go_at_call 48; (with_reducible refine (impl_size.calls (wrap64 ((rd l0 0) * (rd l0 2))) t365 _ A29.out).mono ?_); rintro e w39 ⟨rfl, hb⟩; replace HB := BS hb; (try clear hb)) | (go_at_call 67; (with_reducible refine (impl_squareRoot.calls k4 (wrap64 (Int.tdiv (wrap64 ((wrap64 ((wrap64 ((wrap64 (-(rd l0 0))) * x14_3)) * x14_3)) - (wrap64 ((wrap64 ((rd l0 1) * x15_4)) * x15_4)))) (rd l0 2))) t366 true _ A33.out).mono ?_); rintro e w' ⟨rfl, ⟨nd, rfl⟩⟩; (try first | exact ⟨rfl, _, World.drewN_drewN _ _ _⟩ | exact ⟨rfl, _, Eq.trans (World.drewN_drewN _ _ _) (congrArg (World.drewN _) (Nat.add_assoc _ _ _))⟩)) | ((with_reducible refine gate_dst (N := 125) rfl ?_); refine Kd.R_lit (Kd.int .i64) _ 3 ?hg (N := 125) ?hd (xs := ([x14_3, x15_4, t366] : List Int)) (inner := [.int .i64 x14_3, .int .i64 x15_4, .int .i64 t366]) (ok := fun _ => True) (okp := fun _ => True) ?hr ?hp (fun _ hk => hk) trivial (Below.refl _ _) (Nat.le_refl _) (by simp) ?_; (case hd => rfl); (case hg => rfl); (case hr => first | (go_simp; done) | (go_simp; rfl)); (case hp => exact (Reps.one (show Kd.M (Kd.int .i64) _ _ _ x14_3 [.int .i64 x14_3] from rfl) (Reps.one (show Kd.M (Kd.int .i64) _ _ _ x15_4 [.int .i64 x15_4] from rfl) (Reps.one (show Kd.M (Kd.int .i64) _ _ _ t366 [.int .i64 t366] from rfl) (Reps.none _ _))))); intro v369 w40 ho41 hb hg_ hnew_; clear hg_ hnew_; (first | rw [← Ny368.out] at ho41 | (simp only [Int.reduceToNat] at ho41; rw [← Ny368.out] at ho41)); have HO370 := Aside0.mk (Kd.R_lower ho41 (below_size BU)); replace HB := BS hb; clear hb ho41))
                                repeat (go_quiet (first | (go_at_call 48; (with_reducible refine (impl_size.calls (wrap64 ((rd l0 0) * (rd l0 2))) t365 _ A29.out).mono ?_); rintro e w39 ⟨rfl, hb⟩; replace HB := BS hb; (try clear hb)) | (go_at_call 67; (with_reducible refine (impl_squareRoot.calls k4 (wrap64 (Int.tdiv (wrap64 ((wrap64 ((wrap64 ((wrap64 (-(rd l0 0))) * x14_3)) * x14_3)) - (wrap64 ((wrap64 ((rd l0 1) * x15_4)) * x15_4)))) (rd l0 2))) t366 true _ A33.out).mono ?_); rintro e w' ⟨rfl, ⟨nd, rfl⟩⟩; (try first | exact ⟨rfl, _, World.drewN_drewN _ _ _⟩ | exact ⟨rfl, _, Eq.trans (World.drewN_drewN _ _ _) (congrArg (World.drewN _) (Nat.add_assoc _ _ _))⟩)) | ((with_reducible refine gate_dst (N := 125) rfl ?_); refine Kd.R_lit (Kd.int .i64) _ 3 ?hg (N := 125) ?hd (xs := ([x14_3, x15_4, t366] : List Int)) (inner := [.int .i64 x14_3, .int .i64 x15_4, .int .i64 t366]) (ok := fun _ => True) (okp := fun _ => True) ?hr ?hp (fun _ hk => hk) trivial (Below.refl _ _) (Nat.le_refl _) (by simp) ?_; (case hd => rfl); (case hg => rfl); (case hr => first | (go_simp; done) | (go_simp; rfl)); (case hp => exact (Reps.one (show Kd.M (Kd.int .i64) _ _ _ x14_3 [.int .i64 x14_3] from rfl) (Reps.one (show Kd.M (Kd.int .i64) _ _ _ x15_4 [.int .i64 x15_4] from rfl) (Reps.one (show Kd.M (Kd.int .i64) _ _ _ t366 [.int .i64 t366] from rfl) (Reps.none _ _))))); intro v369 w40 ho41 hb hg_ hnew_; clear hg_ hnew_; (first | rw [← Ny368.out] at ho41 | (simp only [Int.reduceToNat] at ho41; rw [← Ny368.out] at ho41)); have HO370 := Aside0.mk (Kd.R_lower ho41 (below_size BU)); replace HB := BS hb; clear hb ho41)); try go_wp2_with (first | (go_at_call 48; (with_reducible refine (impl_size.calls (wrap64 ((rd l0 0) * (rd l0 2))) t365 _ A29.out).mono ?_); rintro e w39 ⟨rfl, hb⟩; replace HB := BS hb; (try clear hb)) | (go_at_call 67; (with_reducible refine (impl_squareRoot.calls k4 (wrap64 (Int.tdiv (wrap64 ((wrap64 ((wrap64 ((wrap64 (-(rd l0 0))) * x14_3)) * x14_3)) - (wrap64 ((wrap64 ((rd l0 1) * x15_4)) * x15_4)))) (rd l0 2))) t366 true _ A33.out).mono ?_); rintro e w' ⟨rfl, ⟨nd, rfl⟩⟩; (try first | exact ⟨rfl, _, World.drewN_drewN _ _ _⟩ | exact ⟨rfl, _, Eq.trans (World.drewN_drewN _ _ _) (congrArg (World.drewN _) (Nat.add_assoc _ _ _))⟩)) | ((with_reducible refine gate_dst (N := 125) rfl ?_); refine Kd.R_lit (Kd.int .i64) _ 3 ?hg (N := 125) ?hd (xs := ([x14_3, x15_4, t366] : List Int)) (inner := [.int .i64 x14_3, .int .i64 x15_4, .int .i64 t366]) (ok := fun _ => True) (okp := fun _ => True) ?hr ?hp (fun _ hk => hk) trivial (Below.refl _ _) (Nat.le_refl _) (by simp) ?_; (case hd => rfl); (case hg => rfl); (case hr => first | (go_simp; done) | (go_simp; rfl)); (case hp => exact (Reps.one (show Kd.M (Kd.int .i64) _ _ _ x14_3 [.int .i64 x14_3] from rfl) (Reps.one (show Kd.M (Kd.int .i64) _ _ _ x15_4 [.int .i64 x15_4] from rfl) (Reps.one (show Kd.M (Kd.int .i64) _ _ _ t366 [.int .i64 t366] from rfl) (Reps.none _ _))))); intro v369 w40 ho41 hb hg_ hnew_; clear hg_ hnew_; (first | rw [← Ny368.out] at ho41 | (simp only [Int.reduceToNat] at ho41; rw [← Ny368.out] at ho41)); have HO370 := Aside0.mk (Kd.R_lower ho41 (below_size BU)); replace HB := BS hb; clear hb ho41)))
                                go_ret2
                                exact ⟨_, eR, U HO370.out, BU⟩
                              rw [if_neg c36] at H; have c36b0 : (x15_4 == 0) = false := beq_eq_false_iff_ne.mpr c36; have c36b1 : (x15_4 != 0) = true := bne_iff_ne.mpr c36; obtain ⟨y371, hy371⟩ : ∃ y_ : List Int, y_ = (([x14_3, x15_4, t366] : List Int)) := ⟨_, rfl⟩; replace H : (some (y371, true)) = some (r1, r2) := rH hy371 H; have Ny371 := Aside0.mk hy371; clear hy371; simp only [Option.some.injEq, Prod.mk.injEq] at H; obtain ⟨rfl, rfl⟩ := H
                              go_wp2_with (first | (go_at_call 48; (with_reducible refine (impl_size.calls (wrap64 ((rd l0 0) * (rd l0 2))) t365 _ A29.out).mono ?_); rintro e w42 ⟨rfl, hb⟩; replace HB := BS hb; (try clear hb)) | (go_at_call 67; (with_reducible refine (impl_squareRoot.calls k4 (wrap64 (Int.tdiv (wrap64 ((wrap64 ((wrap64 ((wrap64 (-(rd l0 0))) * x14_3)) * x14_3)) - (wrap64 ((wrap64 ((rd l0 1) * x15_4)) * x15_4)))) (rd l0 2))) t366 true _ A33.out).mono ?_); rintro e w' ⟨rfl, ⟨nd, rfl⟩⟩; (try first | exact ⟨rfl, _, World.drewN_drewN _ _ _⟩ | exact ⟨rfl, _, Eq.trans (World.drewN_drewN _ _ _) (congrArg (World.drewN _) (Nat.add_assoc _ _ _))⟩)) | ((with_reducible refine gate_dst (N := 125) rfl ?_); refine Kd.R_lit (Kd.int .i64) _ 3 ?hg (N := 125) ?hd (xs := ([x14_3, x15_4, t366] : List Int)) (inner := [.int .i64 x14_3, .int .i64 x15_4, .int .i64 t366]) (ok := fun _ => True) (okp := fun _ => True) ?hr ?hp (fun _ hk => hk) trivial (Below.refl _ _) (Nat.le_refl _) (by simp) ?_; (case hd => rfl); (case hg => rfl); (case hr => first | (go_simp; done) | (go_simp; rfl)); (case hp => exact (Reps.one (show Kd.M (Kd.int .i64) _ _ _ x14_3 [.int .i64 x14_3] from rfl) (Reps.one (show Kd.M (Kd.int .i64) _ _ _ x15_4 [.int .i64 x15_4] from rfl) (Reps.one (show Kd.M (Kd.int .i64) _ _ _ t366 [.int .i64 t366] from rfl) (Reps.none _ _))))); intro v372 w43 ho44 hb hg_ hnew_; clear hg_ hnew_; (first | rw [← Ny371.out] at ho44 | (simp only [Int.reduceToNat] at ho44; rw [← Ny371.out] at ho44)); have HO373 := Aside0.mk (Kd.R_lower ho44 (below_size BU)); replace HB := BS hb; clear hb ho44))
                              repeat (go_quiet (first | (go_at_call 48; (with_reducible refine (impl_size.calls (wrap64 ((rd l0 0) * (rd l0 2))) t365 _ A29.out).mono ?_); rintro e w42 ⟨rfl, hb⟩; replace HB := BS hb; (try clear hb)) | (go_at_call 67; (with_reducible refine (impl_squareRoot.calls k4 (wrap64 (Int.tdiv (wrap64 ((wrap64 ((wrap64 ((wrap64 (-(rd l0 0))) * x14_3)) * x14_3)) - (wrap64 ((wrap64 ((rd l0 1) * x15_4)) * x15_4)))) (rd l0 2))) t366 true _ A33.out).mono ?_); rintro e w' ⟨rfl, ⟨nd, rfl⟩⟩; (try first | exact ⟨rfl, _, World.drewN_drewN _ _ _⟩ | exact ⟨rfl, _, Eq.trans (World.drewN_drewN _ _ _) (congrArg (World.drewN _) (Nat.add_assoc _ _ _))⟩)) | ((with_reducible refine gate_dst (N := 125) rfl ?_); refine Kd.R_lit (Kd.int .i64) _ 3 ?hg (N := 125) ?hd (xs := ([x14_3, x15_4, t366] : List Int)) (inner := [.int .i64 x14_3, .int .i64 x15_4, .int .i64 t366]) (ok := fun _ => True) (okp := fun _ => True) ?hr ?hp (fun _ hk => hk) trivial (Below.refl _ _) (Nat.le_refl _) (by simp) ?_; (case hd => rfl); (case hg => rfl); (case hr => first | (go_simp; done) | (go_simp; rfl)); (case hp => exact (Reps.one (show Kd.M (Kd.int .i64) _ _ _ x14_3 [.int .i64 x14_3] from rfl) (Reps.one (show Kd.M (Kd.int .i64) _ _ _ x15_4 [.int .i64 x15_4] from rfl) (Reps.one (show Kd.M (Kd.int .i64) _ _ _ t366 [.int .i64 t366] from rfl) (Reps.none _ _))))); intro v372 w43 ho44 hb hg_ hnew_; clear hg_ hnew_; (first | rw [← Ny371.out] at ho44 | (simp only [Int.reduceToNat] at ho44; rw [← Ny371.out] at ho44)); have HO373 := Aside0.mk (Kd.R_lower ho44 (below_size BU)); replace HB := BS hb; clear hb ho44)); try go_wp2_with (first | (go_at_call 48; (with_reducible refine (impl_size.calls (wrap64 ((rd l0 0) * (rd l0 2))) t365 _ A29.out).mono ?_); rintro e w42 ⟨rfl, hb⟩; replace HB := BS hb; (try clear hb)) | (go_at_call 67; (with_reducible refine (impl_squareRoot.calls k4 (wrap64 (Int.tdiv (wrap64 ((wrap64 ((wrap64 ((wrap64 (-(rd l0 0))) * x14_3)) * x14_3)) - (wrap64 ((wrap64 ((rd l0 1) * x15_4)) * x15_4)))) (rd l0 2))) t366 true _ A33.out).mono ?_); rintro e w' ⟨rfl, ⟨nd, rfl⟩⟩; (try first | exact ⟨rfl, _, World.drewN_drewN _ _ _⟩ | exact ⟨rfl, _, Eq.trans (World.drewN_drewN _ _ _) (congrArg (World.drewN _) (Nat.add_assoc _ _ _))⟩)) | ((with_reducible refine gate_dst (N := 125) rfl ?_); refine Kd.R_lit (Kd.int .i64) _ 3 ?hg (N := 125) ?hd (xs := ([x14_3, x15_4, t366] : List Int)) (inner := [.int .i64 x14_3, .int .i64 x15_4, .int .i64 t366]) (ok := fun _ => True) (okp := fun _ => True) ?hr ?hp (fun _ hk => hk) trivial (Below.refl _ _) (Nat.le_refl _) (by simp) ?_; (case hd => rfl); (case hg => rfl); (case hr => first | (go_simp; done) | (go_simp; rfl)); (case hp => exact (Reps.one (show Kd.M (Kd.int .i64) _ _ _ x14_3 [.int .i64 x14_3] from rfl) (Reps.one (show Kd.M (Kd.int .i64) _ _ _ x15_4 [.int .i64 x15_4] from rfl) (Reps.one (show Kd.M (Kd.int .i64) _ _ _ t366 [.int .i64 t366] from rfl) (Reps.none _ _))))); intro v372 w43 ho44 hb hg_ hnew_; clear hg_ hnew_; (first | rw [← Ny371.out] at ho44 | (simp only [Int.reduceToNat] at ho44; rw [← Ny371.out] at ho44)); have HO373 := Aside0.mk (Kd.R_lower ho44 (below_size BU)); replace HB := BS hb; clear hb ho44)))
                              go_ret2
                              exact ⟨_, eR, U HO373.out, BU⟩
                            rw [if_neg c35] at H; have c35b0 : (x14_3 == 0) = false := beq_eq_false_iff_ne.mpr c35; have c35b1 : (x14_3 != 0) = true := bne_iff_ne.mpr c35; obtain ⟨y374, hy374⟩ : ∃ y_ : List Int, y_ = (([x14_3, x15_4, t366] : List Int)) := ⟨_, rfl⟩; replace H : (some (y374, true)) = some (r1, r2) := rH hy374 H; have Ny374 := Aside0.mk hy374; clear hy374; simp only [Option.some.injEq, Prod.mk.injEq] at H; obtain ⟨rfl, rfl⟩ := H
                            go_wp2_with (first | (go_at_call 48; (with_reducible refine (impl_size.calls (wrap64 ((rd l0 0) * (rd l0 2))) t365 _ A29.out).mono ?_); rintro e w45 ⟨rfl, hb⟩; replace HB := BS hb; (try clear hb)) | (go_at_call 67; (with_reducible refine (impl_squareRoot.calls k4 (wrap64 (Int.tdiv (wrap64 ((wrap64 ((wrap64 ((wrap64 (-(rd l0 0))) * x14_3)) * x14_3)) - (wrap64 ((wrap64 ((rd l0 1) * x15_4)) * x15_4)))) (rd l0 2))) t366 true _ A33.out).mono ?_); rintro e w' ⟨rfl, ⟨nd, rfl⟩⟩; (try first | exact ⟨rfl, _, World.drewN_drewN _ _ _⟩ | exact ⟨rfl, _, Eq.trans (World.drewN_drewN _ _ _) (congrArg (World.drewN _) (Nat.add_assoc _ _ _))⟩)) | ((with_reducible refine gate_dst (N := 125) rfl ?_); refine Kd.R_lit (Kd.int .i64) _ 3 ?hg (N := 125) ?hd (xs := ([x14_3, x15_4, t366] : List Int)) (inner := [.int .i64 x14_3, .int .i64 x15_4, .int .i64 t366]) (ok := fun _ => True) (okp := fun _ => True) ?hr ?hp (fun _ hk => hk) trivial (Below.refl _ _) (Nat.le_refl _) (by simp) ?_; (case hd => rfl); (case hg => rfl); (case hr => first | (go_simp; done) | (go_simp; rfl)); (case hp => exact (Reps.one (show Kd.M (Kd.int .i64) _ _ _ x14_3 [.int .i64 x14_3] from rfl) (Reps.one (show Kd.M (Kd.int .i64) _ _ _ x15_4 [.int .i64 x15_4] from rfl) (Reps.one (show Kd.M (Kd.int .i64) _ _ _ t366 [.int .i64 t366] from rfl) (Reps.none _ _))))); intro v375 w46 ho47 hb hg_ hnew_; clear hg_ hnew_; (first | rw [← Ny374.out] at ho47 | (simp only [Int.reduceToNat] at ho47; rw [← Ny374.out] at ho47)); have HO376 := Aside0.mk (Kd.R_lower ho47 (below_size BU)); replace HB := BS hb; clear hb ho47))
                            repeat (go_quiet (first | (go_at_call 48; (with_reducible refine (impl_size.calls (wrap64 ((rd l0 0) * (rd l0 2))) t365 _ A29.out).mono ?_); rintro e w45 ⟨rfl, hb⟩; replace HB := BS hb; (try clear hb)) | (go_at_call 67; (with_reducible refine (impl_squareRoot.calls k4 (wrap64 (Int.tdiv (wrap64 ((wrap64 ((wrap64 ((wrap64 (-(rd l0 0))) * x14_3)) * x14_3)) - (wrap64 ((wrap64 ((rd l0 1) * x15_4)) * x15_4)))) (rd l0 2))) t366 true _ A33.out).mono ?_); rintro e w' ⟨rfl, ⟨nd, rfl⟩⟩; (try first | exact ⟨rfl, _, World.drewN_drewN _ _ _⟩ | exact ⟨rfl, _, Eq.trans (World.drewN_drewN _ _ _) (congrArg (World.drewN _) (Nat.add_assoc _ _ _))⟩)) | ((with_reducible refine gate_dst (N := 125) rfl ?_); refine Kd.R_lit (Kd.int .i64) _ 3 ?hg (N := 125) ?hd (xs := ([x14_3, x15_4, t366] : List Int)) (inner := [.int .i64 x14_3, .int .i64 x15_4, .int .i64 t366]) (ok := fun _ => True) (okp := fun _ => True) ?hr ?hp (fun _ hk => hk) trivial (Below.refl _ _) (Nat.le_refl _) (by simp) ?_; (case hd => rfl); (case hg => rfl); (case hr => first | (go_simp; done) | (go_simp; rfl)); (case hp => exact (Reps.one (show Kd.M (Kd.int .i64) _ _ _ x14_3 [.int .i64 x14_3] from rfl) (Reps.one (show Kd.M (Kd.int .i64) _ _ _ x15_4 [.int .i64 x15_4] from rfl) (Reps.one (show Kd.M (Kd.int .i64) _ _ _ t366 [.int .i64 t366] from rfl) (Reps.none _ _))))); intro v375 w46 ho47 hb hg_ hnew_; clear hg_ hnew_; (first | rw [← Ny374.out] at ho47 | (simp only [Int.reduceToNat] at ho47; rw [← Ny374.out] at ho47)); have HO376 := Aside0.mk (Kd.R_lower ho47 (below_size BU)); replace HB := BS hb; clear hb ho47)); try go_wp2_with (first | (go_at_call 48; (with_reducible refine (impl_size.calls (wrap64 ((rd l0 0) * (rd l0 2))) t365 _ A29.out).mono ?_); rintro e w45 ⟨rfl, hb⟩; replace HB := BS hb; (try clear hb)) | (go_at_call 67; (with_reducible refine (impl_squareRoot.calls k4 (wrap64 (Int.tdiv (wrap64 ((wrap64 ((wrap64 ((wrap64 (-(rd l0 0))) * x14_3)) * x14_3)) - (wrap64 ((wrap64 ((rd l0 1) * x15_4)) * x15_4)))) (rd l0 2))) t366 true _ A33.out).mono ?_); rintro e w' ⟨rfl, ⟨nd, rfl⟩⟩; (try first | exact ⟨rfl, _, World.drewN_drewN _ _ _⟩ | exact ⟨rfl, _, Eq.trans (World.drewN_drewN _ _ _) (congrArg (World.drewN _) (Nat.add_assoc _ _ _))⟩)) | ((with_reducible refine gate_dst (N := 125) rfl ?_); refine Kd.R_lit (Kd.int .i64) _ 3 ?hg (N := 125) ?hd (xs := ([x14_3, x15_4, t366] : List Int)) (inner := [.int .i64 x14_3, .int .i64 x15_4, .int .i64 t366]) (ok := fun _ => True) (okp := fun _ => True) ?hr ?hp (fun _ hk => hk) trivial (Below.refl _ _) (Nat.le_refl _) (by simp) ?_; (case hd => rfl); (case hg => rfl); (case hr => first | (go_simp; done) | (go_simp; rfl)); (case hp => exact (Reps.one (show Kd.M (Kd.int .i64) _ _ _ x14_3 [.int .i64 x14_3] from rfl) (Reps.one (show Kd.M (Kd.int .i64) _ _ _ x15_4 [.int .i64 x15_4] from rfl) (Reps.one (show Kd.M (Kd.int .i64) _ _ _ t366 [.int .i64 t366] from rfl) (Reps.none _ _))))); intro v375 w46 ho47 hb hg_ hnew_; clear hg_ hnew_; (first | rw [← Ny374.out] at ho47 | (simp only [Int.reduceToNat] at ho47; rw [← Ny374.out] at ho47)); have HO376 := Aside0.mk (Kd.R_lower ho47 (below_size BU)); replace HB := BS hb; clear hb ho47)))
                            go_ret2
                            exact ⟨_, eR, U HO376.out, BU⟩
                          replace c34 := Bool.eq_false_iff.mpr c34; subst c34; replace H := ifF H; have H' := Aside0.mk H; clear H
                          go_wp2_with (first | (go_at_call 48; (with_reducible refine (impl_size.calls (wrap64 ((rd l0 0) * (rd l0 2))) t365 _ A29.out).mono ?_); rintro e w48 ⟨rfl, hb⟩; replace HB := BS hb; (try clear hb)) | (go_at_call 67; (with_reducible refine (impl_squareRoot.calls k4 (wrap64 (Int.tdiv (wrap64 ((wrap64 ((wrap64 ((wrap64 (-(rd l0 0))) * x14_3)) * x14_3)) - (wrap64 ((wrap64 ((rd l0 1) * x15_4)) * x15_4)))) (rd l0 2))) t366 false _ A33.out).mono ?_); rintro e w' ⟨rfl, ⟨nd, rfl⟩⟩; (try first | exact ⟨rfl, _, World.drewN_drewN _ _ _⟩ | exact ⟨rfl, _, Eq.trans (World.drewN_drewN _ _ _) (congrArg (World.drewN _) (Nat.add_assoc _ _ _))⟩)))
                          repeat (go_quiet (first | (go_at_call 48; (with_reducible refine (impl_size.calls (wrap64 ((rd l0 0) * (rd l0 2))) t365 _ A29.out).mono ?_); rintro e w48 ⟨rfl, hb⟩; replace HB := BS hb; (try clear hb)) | (go_at_call 67; (with_reducible refine (impl_squareRoot.calls k4 (wrap64 (Int.tdiv (wrap64 ((wrap64 ((wrap64 ((wrap64 (-(rd l0 0))) * x14_3)) * x14_3)) - (wrap64 ((wrap64 ((rd l0 1) * x15_4)) * x15_4)))) (rd l0 2))) t366 false _ A33.out).mono ?_); rintro e w' ⟨rfl, ⟨nd, rfl⟩⟩; (try first | exact ⟨rfl, _, World.drewN_drewN _ _ _⟩ | exact ⟨rfl, _, Eq.trans (World.drewN_drewN _ _ _) (congrArg (World.drewN _) (Nat.add_assoc _ _ _))⟩))); try go_wp2_with (first | (go_at_call 48; (with_reducible refine (impl_size.calls (wrap64 ((rd l0 0) * (rd l0 2))) t365 _ A29.out).mono ?_); rintro e w48 ⟨rfl, hb⟩; replace HB := BS hb; (try clear hb)) | (go_at_call 67; (with_reducible refine (impl_squareRoot.calls k4 (wrap64 (Int.tdiv (wrap64 ((wrap64 ((wrap64 ((wrap64 (-(rd l0 0))) * x14_3)) * x14_3)) - (wrap64 ((wrap64 ((rd l0 1) * x15_4)) * x15_4)))) (rd l0 2))) t366 false _ A33.out).mono ?_); rintro e w' ⟨rfl, ⟨nd, rfl⟩⟩; (try first | exact ⟨rfl, _, World.drewN_drewN _ _ _⟩ | exact ⟨rfl, _, Eq.trans (World.drewN_drewN _ _ _) (congrArg (World.drewN _) (Nat.add_assoc _ _ _))⟩))))
                          go_roundg k4
                          case measure => have := HK1.out; have := HJ15.out; have := HK3.out; have := HK4.out; omega
                          case rel => exact ⟨(wrap64 (x15_4 + 1)), sR, H', ⟨by have := HK1.out; have := HJ15.out; have := HK3.out; have := HK4.out; omega⟩, ⟨BU⟩⟩
                        rw [if_neg c32] at H; have c32b0 : ((Int.tmod (wrap64 ((wrap64 ((wrap64 ((wrap64 (-(rd l0 0))) * x14_3)) * x14_3)) - (wrap64 ((wrap64 ((rd l0 1) * x15_4)) * x15_4)))) (rd l0 2)) == 0) = false := beq_eq_false_iff_ne.mpr c32; have c32b1 : ((Int.tmod (wrap64 ((wrap64 ((wrap64 ((wrap64 (-(rd l0 0))) * x14_3)) * x14_3)) - (wrap64 ((wrap64 ((rd l0 1) * x15_4)) * x15_4)))) (rd l0 2)) != 0) = true := bne_iff_ne.mpr c32; have H' := Aside0.mk H; clear H
                        go_wp2_with (first | (go_at_call 48; (with_reducible refine (impl_size.calls (wrap64 ((rd l0 0) * (rd l0 2))) t365 _ A29.out).mono ?_); rintro e w49 ⟨rfl, hb⟩; replace HB := BS hb; (try clear hb)))
                        repeat (go_quiet (first | (go_at_call 48; (with_reducible refine (impl_size.calls (wrap64 ((rd l0 0) * (rd l0 2))) t365 _ A29.out).mono ?_); rintro e w49 ⟨rfl, hb⟩; replace HB := BS hb; (try clear hb))); try go_wp2_with (first | (go_at_call 48; (with_reducible refine (impl_size.calls (wrap64 ((rd l0 0) * (rd l0 2))) t365 _ A29.out).mono ?_); rintro e w49 ⟨rfl, hb⟩; replace HB := BS hb; (try clear hb))))
                        go_roundg k4
                        case measure => have := HK1.out; have := HJ15.out; have := HK3.out; have := HK4.out; omega
                        case rel => exact ⟨(wrap64 (x15_4 + 1)), sR, H', ⟨by have := HK1.out; have := HJ15.out; have := HK3.out; have := HK4.out; omega⟩, ⟨BU⟩⟩
                      rw [if_neg c30] at H; have c30b0 : decide ((wrap64 (x15_4 * x15_4)) ≤ t365) = false := decide_eq_false c30; clear c30; have H' := Aside0.mk H; clear H
                      go_wp2_with (first | (go_at_call 48; (with_reducible refine (impl_size.calls (wrap64 ((rd l0 0) * (rd l0 2))) t365 _ A29.out).mono ?_); rintro e w50 ⟨rfl, hb⟩; replace HB := BS hb; (try clear hb)))
                      repeat (go_quiet (first | (go_at_call 48; (with_reducible refine (impl_size.calls (wrap64 ((rd l0 0) * (rd l0 2))) t365 _ A29.out).mono ?_); rintro e w50 ⟨rfl, hb⟩; replace HB := BS hb; (try clear hb))); try go_wp2_with (first | (go_at_call 48; (with_reducible refine (impl_size.calls (wrap64 ((rd l0 0) * (rd l0 2))) t365 _ A29.out).mono ?_); rintro e w50 ⟨rfl, hb⟩; replace HB := BS hb; (try clear hb))))
                      go_roundg k4
                      case measure => have := HK1.out; have := HJ15.out; have := HK3.out; have := HK4.out; omega
                      case rel => exact ⟨(wrap64 (x14_3 + 1)), sR, H', ⟨by have := HK1.out; have := HJ15.out; have := HK3.out; have := HK4.out; omega⟩, ⟨BU⟩⟩
                rw [if_neg c27] at H; have c27b0 : decide ((wrap64 (x14_3 * x14_3)) ≤ t364) = false := decide_eq_false c27; clear c27; simp only [Option.some.injEq, Prod.mk.injEq] at H; obtain ⟨rfl, rfl⟩ := H
                go_wp2_with (first | (go_at_call 48; (with_reducible refine (impl_size.calls (wrap64 ((rd l0 1) * (rd l0 2))) t364 _ A26.out).mono ?_); rintro e w51 ⟨rfl, hb⟩; replace HB := BS hb; (try clear hb)))
                repeat (go_quiet (first | (go_at_call 48; (with_reducible refine (impl_size.calls (wrap64 ((rd l0 1) * (rd l0 2))) t364 _ A26.out).mono ?_); rintro e w51 ⟨rfl, hb⟩; replace HB := BS hb; (try clear hb))); try go_wp2_with (first | (go_at_call 48; (with_reducible refine (impl_size.calls (wrap64 ((rd l0 1) * (rd l0 2))) t364 _ A26.out).mono ?_); rintro e w51 ⟨rfl, hb⟩; replace HB := BS hb; (try clear hb))))
                go_ret2
                exact ⟨_, eR, by first | exact Kd.R_nil _ _ _ _ _ | exact Kd.N_nil _ _ _ _ _ | exact Kd.V_nil _ _ _ _ _ | exact Kd.Q_nil _ _ _ _ _ | exact Kd.S_nil _ _ _ _ _, BU⟩
  rw [if_neg c2] at H; have c2b0 : ((l0.length : Int) == 3) = false := beq_eq_false_iff_ne.mpr c2; have c2b1 : ((l0.length : Int) != 3) = true := bne_iff_ne.mpr c2; simp only [Option.some.injEq, Prod.mk.injEq] at H; obtain ⟨rfl, rfl⟩ := H; go_enter Try.func46, Try.ntmps46
  go_wp2
  repeat (go_quiet (fail); try go_wp2)
  go_ret2
  exact ⟨_, eR, by first | exact Kd.R_nil _ _ _ _ _ | exact Kd.N_nil _ _ _ _ _ | exact Kd.V_nil _ _ _ _ _ | exact Kd.Q_nil _ _ _ _ _ | exact Kd.S_nil _ _ _ _ _, BU⟩

/-! ### impl_zeroOfFour: function 47, at lists for which it is not called: it tells nothing -/
def impl_zeroOfFour.f (_ : Nat) (_ : List Int) : Option (List Int × Bool) := none
theorem impl_zeroOfFour.mono : ∀ a0 k, LeO (impl_zeroOfFour.f k a0) (impl_zeroOfFour.f (k + 1) a0) := fun _ _ => LeO.none _
theorem impl_zeroOfFour.calls (k : Nat) (A0 : Option Addr) (c0 : Nat) (l0 : List Int) (r1 : List Int) (r2 : Bool) (w : World) (hr0 : Kd.C (Kd.int .i64) w A0 l0.length l0) (hc0 : l0.length ≤ c0) (h : impl_zeroOfFour.f k l0 = some (r1, r2)) :
    Calls Try.prog 47 #[.slice A0 l0.length c0] w fun e w' => ∃ v0_ : Value, e = .returned (.tuple #[v0_, .bool r2]) ∧ Kd.R (Kd.int .i64) 3 w' w.heap.size (fun _ => True) v0_ r1 ∧ Below w.heap.size w w' := by
  cases h

end Go.Proofs.Ytpjgcjkodmkemaa.PFnMany
