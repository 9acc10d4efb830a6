-- Written by a program of this session (wip/print2.py): the functions that the law reaches, plain, and the walks.
import Derived.Test.YtpaohkhmhdhibaaPFnConicManyx0
import Derived.Test.YtpaohkhmhdhibaaPFnConicManyx5
import Derived.Test.YtpaohkhmhdhibaaPFnConicManyx13
import Derived.Test.YtpaohkhmhdhibaaPFnConicManyx15
namespace Go.Proofs.Ytpaohkhmhdhibaa.PFnConicMany
open Go.RowKit Go.Proofs.YtpaohkhmhdhibaaW.PrintWords Go.Proofs.YtpaohkhmhdhibaaW.PrintLast Go.Proofs.YtpaohkhmhdhibaaW.PrintMore
attribute [local go_sem] max2_int min2_int max_two min_two max_three min_three max_four min_four   -- for this text's walks alone
set_option linter.unusedVariables false
set_option linter.unusedSimpArgs false

/-! ### spec_ConicMany: function 27 -/
mutual
def spec_ConicMany.j0 : Nat → List Int → List Int → Int → Bool → Option (Int)
  | 0, _, _, _, _ => none
  | k + 1, x0, x1, x2, x20 => if x20 = true then (some (-1)) else (spec_ConicMany.l0 k x0 x1 x2 (([] : List (List Int))) 0)
def spec_ConicMany.l0 : Nat → List Int → List Int → Int → List (List Int) → Int → Option (Int)
  | 0, _, _, _, _, _ => none
  | k + 1, x0, x1, x2, x7, x8 => if x8 ≤ x2 then (spec_ConicMany.l1 k x0 x1 x2 x7 x8 (wrap64 (-x2))) else (some (x7.length : Int))
def spec_ConicMany.l1 : Nat → List Int → List Int → Int → List (List Int) → Int → Int → Option (Int)
  | 0, _, _, _, _, _, _ => none
  | k + 1, x0, x1, x2, x7, x8, x9 => if x9 ≤ x2 then (if x8 = 0 then (if x9 = 0 then (spec_ConicMany.j3 k x0 x1 x2 x7 x8 x9 true) else ((spec_l6kPlain.f k (([x8, x9] : List Int))).bind fun t542 => (spec_ConicMany.j3 k x0 x1 x2 x7 x8 x9 (!t542)))) else ((spec_l6kPlain.f k (([x8, x9] : List Int))).bind fun t546 => (spec_ConicMany.j3 k x0 x1 x2 x7 x8 x9 (!t546)))) else (spec_ConicMany.l0 k x0 x1 x2 x7 (wrap64 (x8 + 1)))
def spec_ConicMany.j3 : Nat → List Int → List Int → Int → List (List Int) → Int → Int → Bool → Option (Int)
  | 0, _, _, _, _, _, _, _ => none
  | k + 1, x0, x1, x2, x7, x8, x9, x46 => if x46 = true then (spec_ConicMany.l1 k x0 x1 x2 x7 x8 (wrap64 (x9 + 1))) else ((spec_ConicAt.f k x0 x1 x8 x9).bind fun bt547 => (if bt547.2 = true then ((spec_l6kIn.f k x7 bt547.1).bind fun t551 => (if t551 = true then (spec_ConicMany.l1 k x0 x1 x2 x7 x8 (wrap64 (x9 + 1))) else (if x7.length < 5864062014805 then (spec_ConicMany.l1 k x0 x1 x2 (x7 ++ [bt547.1]) x8 (wrap64 (x9 + 1))) else (none)))) else (spec_ConicMany.l1 k x0 x1 x2 x7 x8 (wrap64 (x9 + 1)))))
end
def spec_ConicMany.f (k : Nat) (l0 : List Int) (l1 : List Int) (a2 : Int) : Option (Int) := (spec_ConicPoint.f k l0 l1).bind fun t534 => (if t534 = true then ((spec_l6In.f a2 1 5).bind fun t535 => (spec_ConicMany.j0 k l0 l1 a2 (!t535))) else (spec_ConicMany.j0 k l0 l1 a2 true))
theorem spec_ConicMany.mono_l : ∀ k, (∀ y0 y1 y2 y3, LeO (spec_ConicMany.j0 k y0 y1 y2 y3) (spec_ConicMany.j0 (k + 1) y0 y1 y2 y3)) ∧ (∀ y0 y1 y2 y3 y4, LeO (spec_ConicMany.l0 k y0 y1 y2 y3 y4) (spec_ConicMany.l0 (k + 1) y0 y1 y2 y3 y4)) ∧ (∀ y0 y1 y2 y3 y4 y5, LeO (spec_ConicMany.l1 k y0 y1 y2 y3 y4 y5) (spec_ConicMany.l1 (k + 1) y0 y1 y2 y3 y4 y5)) ∧ (∀ y0 y1 y2 y3 y4 y5 y6, LeO (spec_ConicMany.j3 k y0 y1 y2 y3 y4 y5 y6) (spec_ConicMany.j3 (k + 1) y0 y1 y2 y3 y4 y5 y6))
  | 0 => ⟨fun _ _ _ _ r h => by simp [spec_ConicMany.j0] at h, fun _ _ _ _ _ r h => by simp [spec_ConicMany.l0] at h, fun _ _ _ _ _ _ r h => by simp [spec_ConicMany.l1] at h, fun _ _ _ _ _ _ _ r h => by simp [spec_ConicMany.j3] at h⟩
  | k + 1 => by
    obtain ⟨ih0, ih1, ih2, ih3⟩ := spec_ConicMany.mono_l k
    refine ⟨?_, ?_, ?_, ?_⟩ <;> intros <;> (first | unfold spec_ConicMany.j0 | unfold spec_ConicMany.l0 | unfold spec_ConicMany.l1 | unfold spec_ConicMany.j3) <;> (repeat' first
      | (with_reducible exact ih0 _ _ _ _)
      | (with_reducible exact ih1 _ _ _ _ _)
      | (with_reducible exact ih2 _ _ _ _ _ _)
      | (with_reducible exact ih3 _ _ _ _ _ _ _)
      | (with_reducible exact spec_ConicAt.mono _ _ _ _ _)
      | (with_reducible exact spec_ConicPoint.mono _ _ _)
      | (with_reducible exact spec_l6kIn.mono _ _ _)
      | (with_reducible exact spec_l6kPlain.mono _ _)
      | (with_reducible exact LeO.refl _)
      | (with_reducible exact LeO.none _)
      | (with_reducible refine LeO.ite ?_ ?_)
      | (with_reducible refine LeO.bind ?_ (fun _ => ?_))
      | exact ih0 _ _ _ _
      | exact ih1 _ _ _ _ _
      | exact ih2 _ _ _ _ _ _
      | exact ih3 _ _ _ _ _ _ _
      | exact spec_ConicAt.mono _ _ _ _ _
      | exact spec_ConicPoint.mono _ _ _
      | exact spec_l6kIn.mono _ _ _
      | exact spec_l6kPlain.mono _ _
      | exact LeO.none _
      | refine LeO.ite ?_ ?_
      | refine LeO.bind ?_ (fun _ => ?_))
theorem spec_ConicMany.mono : ∀ a0 a1 a2 k, LeO (spec_ConicMany.f k a0 a1 a2) (spec_ConicMany.f (k + 1) a0 a1 a2) := by
  intro a0 a1 a2 k
  obtain ⟨ih0, ih1, ih2, ih3⟩ := spec_ConicMany.mono_l k
  unfold spec_ConicMany.f
  repeat' first
      | (with_reducible exact ih0 _ _ _ _)
      | (with_reducible exact ih1 _ _ _ _ _)
      | (with_reducible exact ih2 _ _ _ _ _ _)
      | (with_reducible exact ih3 _ _ _ _ _ _ _)
      | (with_reducible exact spec_ConicAt.mono _ _ _ _ _)
      | (with_reducible exact spec_ConicPoint.mono _ _ _)
      | (with_reducible exact spec_l6kIn.mono _ _ _)
      | (with_reducible exact spec_l6kPlain.mono _ _)
      | (with_reducible exact LeO.refl _)
      | (with_reducible exact LeO.none _)
      | (with_reducible refine LeO.ite ?_ ?_)
      | (with_reducible refine LeO.bind ?_ (fun _ => ?_))
      | exact ih0 _ _ _ _
      | exact ih1 _ _ _ _ _
      | exact ih2 _ _ _ _ _ _
      | exact ih3 _ _ _ _ _ _ _
      | exact spec_ConicAt.mono _ _ _ _ _
      | exact spec_ConicPoint.mono _ _ _
      | exact spec_l6kIn.mono _ _ _
      | exact spec_l6kPlain.mono _ _
      | exact LeO.none _
      | refine LeO.ite ?_ ?_
      | refine LeO.bind ?_ (fun _ => ?_)
set_option maxHeartbeats 8000000 in
set_option maxRecDepth 100000 in
theorem spec_ConicMany.calls (k : Nat) (A0 : Option Addr) (c0 : Nat) (l0 : List Int) (A1 : Option Addr) (c1 : Nat) (l1 : List Int) (a2 : Int) (r : Int) (w : World) (hr0 : Kd.C (Kd.int .i64) w A0 l0.length l0) (hc0 : l0.length ≤ c0) (hr1 : Kd.C (Kd.int .i64) w A1 l1.length l1) (hc1 : l1.length ≤ c1) (h : spec_ConicMany.f k l0 l1 a2 = some r) :
    Calls Try.prog 27 #[.slice A0 l0.length c0, .slice A1 l1.length c1, .int .i64 a2] w fun e w' => e = .returned (.int .i64 r) ∧ Below w.heap.size w w' := by
  have HR0 := Aside0.mk hr0; have HC0 := Aside0.mk hc0; clear hr0 hc0; have HR1 := Aside0.mk hr1; have HC1 := Aside0.mk hc1; clear hr1 hc1; have HB := Aside0.mk (Below.refl w.heap.size w); unfold spec_ConicMany.f at h; have H := h; clear h; have HC4 := Aside0.mk H; clear H; go_enter Try.func27, Try.ntmps27
  go_upto_region 1 with (fail)
  go_cut [20] (fun v20 wc => ∃ (kq : Nat) (x20_3 : Bool), v20 = .bool x20_3 ∧ Aside0 (spec_ConicMany.j0 kq l0 l1 a2 x20_3 = some r) ∧ Aside0 (kq ≤ k) ∧ Aside0 (Below w.heap.size w wc))
  case first =>
    have H := HC4.out; clear HC4; obtain ⟨t534, A5, H⟩ := bnd H
    by_cases c6 : t534 = true
    · subst c6
      replace H := ifT H; obtain ⟨t535, A7, H⟩ := bnd H; have H' := Aside0.mk H; clear H
      go_wp2_with (first | ((with_reducible refine gate_callee (f := 10) rfl ?_); refine goesK (some 14) Try.func10 #[.slice A0 l0.length c0, .slice A1 l1.length c1] ?_; (with_reducible refine (spec_ConicPoint.calls k _ _ l0 _ _ l1 true _ ?side1 ?side2 ?side3 ?side4 A5.out).mono ?_); (case side1 => exact U (Kd.C_below HR0.out HB.out)); (case side2 => exact HC0.out); (case side3 => exact U (Kd.C_below HR1.out HB.out)); (case side4 => exact HC1.out); rintro e w8 ⟨rfl, hb⟩; refine ⟨_, rfl, ?_⟩; replace HB := BS hb; (try clear hb)) | (go_at_call 56; (with_reducible refine (spec_l6In.calls a2 1 5 t535 _ A7.out).mono ?_); rintro e w' ⟨rfl, ⟨nd, rfl⟩⟩))
      go_meet
      case rel => exact ⟨_, (!t535), sR, H', ⟨oR⟩, ⟨BU⟩⟩
    replace c6 := Bool.eq_false_iff.mpr c6; subst c6; replace H := ifF H; have H' := Aside0.mk H; clear H
    go_wp2_with (first | ((with_reducible refine gate_callee (f := 10) rfl ?_); refine goesK (some 14) Try.func10 #[.slice A0 l0.length c0, .slice A1 l1.length c1] ?_; (with_reducible refine (spec_ConicPoint.calls k _ _ l0 _ _ l1 false _ ?side1 ?side2 ?side3 ?side4 A5.out).mono ?_); (case side1 => exact U (Kd.C_below HR0.out HB.out)); (case side2 => exact HC0.out); (case side3 => exact U (Kd.C_below HR1.out HB.out)); (case side4 => exact HC1.out); rintro e w9 ⟨rfl, hb⟩; refine ⟨_, rfl, ?_⟩; replace HB := BS hb; (try clear hb)))
    go_meet
    case rel => exact ⟨_, (true), sR, H', ⟨oR⟩, ⟨BU⟩⟩
  case rest =>
    clear HC4; obtain ⟨kq, x20_3, rfl, HA, HJ3, HB⟩ := hcut; cases kq with
    | zero => exact absurd HA.out (by simp [spec_ConicMany.j0])
    | succ kj3 =>
      have H := HA.out; clear HA; simp only [spec_ConicMany.j0] at H
      by_cases c10 : x20_3 = true
      · subst c10
        replace H := ifT H; obtain rfl := Option.some.inj H
        go_wp2
        go_ret
        exact ⟨eR, BU⟩
      replace c10 := Bool.eq_false_iff.mpr c10; subst c10; replace H := ifF H; obtain ⟨y536, hy536⟩ : ∃ y_ : List (List Int), y_ = (([] : List (List Int))) := ⟨_, rfl⟩; replace H : (spec_ConicMany.l0 kj3 l0 l1 a2 y536 0) = some r := rH hy536 H; have Ny536 := Aside0.mk hy536; clear hy536; have H' := Aside0.mk H; clear H
      go_wp2_with (first | ((with_reducible refine gate_dst (N := 21) rfl ?_); (try (refine gate_guard (by rfl) ?_; dsimp only)); refine Kd.S_lit (Kd.slice 3 (Kd.int .i64)) _ 23 ?hg (N := 21) ?hd (xs := ([] : List (List Int))) (inner := []) (ok := fun _ => True) (okp := fun _ => True) ?hr ?hp (fun _ hk => hk) trivial (Below.refl _ _) (Nat.le_refl _) (by simp) ?_; (case hd => rfl); (case hg => rfl); (case hr => first | (go_simp; done) | (go_simp; rfl)); (case hp => exact (Reps.none _ _)); intro v537 w11 ho12 hb hg_ hnew_; clear hg_ hnew_; (first | rw [← Ny536.out] at ho12 | (simp only [Int.reduceToNat] at ho12; rw [← Ny536.out] at ho12)); have HO538 := Aside0.mk (Kd.S_lower ho12 (below_size BU)); replace HB := BS hb; clear hb ho12))
      go_loopg [7, 8] kj3 (fun kq v7 v8 w' => ∃ (x7_2 : List (List Int)) (x8_2 : Int), v8 = .int .i64 x8_2 ∧ Aside0 (spec_ConicMany.l0 kq l0 l1 a2 x7_2 x8_2 = some r) ∧ Aside0 (kq ≤ kj3) ∧ Aside0 (Kd.S (Kd.slice 3 (Kd.int .i64)) 23 w' w.heap.size (fun _ => True) v7 x7_2) ∧ Aside0 (Below w.heap.size w w'))
      case atStart => exact ⟨(y536), (0), sR, H', ⟨Nat.le_refl _⟩, ⟨U HO538.out⟩, ⟨BU⟩⟩
      case round =>
        clear H'; (try clear c10); obtain ⟨x7_2, x8_2, rfl, HA, HK2, HO_7, HB⟩ := hrel; cases gk with
        | zero => exact absurd HA.out (by simp [spec_ConicMany.l0])
        | succ k2 =>
          have H := HA.out; clear HA; simp only [spec_ConicMany.l0] at H
          by_cases c13 : x8_2 ≤ a2
          · rw [if_pos c13] at H
            have c13b0 : decide (x8_2 ≤ a2) = true := decide_eq_true c13; clear c13; have H' := Aside0.mk H; clear H
            go_wp2
            go_loopg [7, 9] k2 (fun kq v7 v9 w' => ∃ (x7_3 : List (List Int)) (x9_3 : Int), v9 = .int .i64 x9_3 ∧ Aside0 (spec_ConicMany.l1 kq l0 l1 a2 x7_3 x8_2 x9_3 = some r) ∧ Aside0 (kq ≤ k2) ∧ Aside0 (Kd.S (Kd.slice 3 (Kd.int .i64)) 23 w' w.heap.size (fun _ => True) v7 x7_3) ∧ Aside0 (Below w.heap.size w w'))
            case atStart => exact ⟨(x7_2), (wrap64 (-a2)), sR, H', ⟨Nat.le_refl _⟩, ⟨U HO_7.out⟩, ⟨BU⟩⟩
            case round =>
              clear H'; (try clear c10); (try clear c13); (try clear c13b0); obtain ⟨x7_3, x9_3, rfl, HA, HK3, HO_7, HB⟩ := hrel; cases gk with
              | zero => exact absurd HA.out (by simp [spec_ConicMany.l1])
              | succ k3 =>
                have H := HA.out; clear HA; simp only [spec_ConicMany.l1] at H
                by_cases c14 : x9_3 ≤ a2
                · rw [if_pos c14] at H
                  have c14b0 : decide (x9_3 ≤ a2) = true := decide_eq_true c14; clear c14; have HC15 := Aside0.mk H; clear H
                  go_upto_region 10 with (fail)
                  go_cut [46] (fun v46 wc => ∃ (kq : Nat) (x46_14 : Bool), v46 = .bool x46_14 ∧ Aside0 (spec_ConicMany.j3 kq l0 l1 a2 x7_3 x8_2 x9_3 x46_14 = some r) ∧ Aside0 (kq ≤ k3) ∧ Aside0 (Kd.S (Kd.slice 3 (Kd.int .i64)) 23 wc w.heap.size (fun _ => True) u7 x7_3) ∧ Aside0 (Below w.heap.size w wc))
                  case first =>
                    have H := HC15.out; clear HC15
                    by_cases c16 : x8_2 = 0
                    · rw [if_pos c16] at H
                      have c16b0 : (x8_2 == 0) = true := beq_iff_eq.mpr c16; have c16b1 : (x8_2 != 0) = false := bne_eq_false_iff_eq.mpr c16; clear c16
                      (first | rw [c16b0] | (simp only [i64_w, i32_w]; rw [c16b0]) | skip)
                      by_cases c17 : x9_3 = 0
                      · rw [if_pos c17] at H
                        have c17b0 : (x9_3 == 0) = true := beq_iff_eq.mpr c17; have c17b1 : (x9_3 != 0) = false := bne_eq_false_iff_eq.mpr c17; clear c17; have H' := Aside0.mk H; clear H
                        go_wp2
                        go_meet
                        case rel => exact ⟨_, (true), sR, H', ⟨by have := HJ3.out; have := HK2.out; have := HK3.out; first | omega | exact Nat.le_refl _⟩, ⟨U HO_7.out⟩, ⟨BU⟩⟩
                      rw [if_neg c17] at H; have c17b0 : (x9_3 == 0) = false := beq_eq_false_iff_ne.mpr c17; have c17b1 : (x9_3 != 0) = true := bne_iff_ne.mpr c17; obtain ⟨y539, hy539⟩ : ∃ y_ : List Int, y_ = (([x8_2, x9_3] : List Int)) := ⟨_, rfl⟩; replace H : ((spec_l6kPlain.f k3 y539).bind fun t542 => (spec_ConicMany.j3 k3 l0 l1 a2 x7_3 x8_2 x9_3 (!t542))) = some r := rH hy539 H; have Ny539 := Aside0.mk hy539; clear hy539; obtain ⟨t542, A18, H⟩ := bnd H; have H' := Aside0.mk H; clear H
                      go_wp2_with (first | ((with_reducible refine gate_dst (N := 43) rfl ?_); (try (refine gate_guard (by rfl) ?_; dsimp only)); refine Kd.R_lit (Kd.int .i64) _ 3 ?hg (N := 43) ?hd (xs := ([x8_2, x9_3] : List Int)) (inner := [.int .i64 x8_2, .int .i64 x9_3]) (ok := fun _ => True) (okp := fun _ => True) ?hr ?hp (fun _ hk => hk) trivial (Below.refl _ _) (Nat.le_refl _) (by simp) ?_; (case hd => rfl); (case hg => rfl); (case hr => first | (go_simp; done) | (go_simp; rfl)); (case hp => exact (Reps.one (show Kd.M (Kd.int .i64) _ _ _ x8_2 [.int .i64 x8_2] from rfl) (Reps.one (show Kd.M (Kd.int .i64) _ _ _ x9_3 [.int .i64 x9_3] from rfl) (Reps.none _ _)))); intro v540 w19 ho20 hb hg_ hnew_; clear hg_ hnew_; (first | rw [← Ny539.out] at ho20 | (simp only [Int.reduceToNat] at ho20; rw [← Ny539.out] at ho20)); replace HO_7 := Aside0.mk (Kd.S_elder' (U HO_7.out) (Kd.R_base ho20) hb); have HO541 := Aside0.mk (Kd.R_lower ho20 (below_size BU)); replace HB := BS hb; clear hb ho20; obtain ⟨Ao21, co21, eo21⟩ := Kd.R_slice HO541.out; subst eo21) | (go_at_call 35; (with_reducible refine (spec_l6kPlain.calls k3 _ _ y539 t542 _ ?side1 ?side2 A18.out).mono ?_); (case side1 => exact U ((Kd.R_reads' HO541.out).2.2)); (case side2 => exact (Kd.R_reads' HO541.out).2.1); rintro e w22 ⟨rfl, hb⟩; replace HO_7 := Aside0.mk (Kd.S_below (U HO_7.out) hb); replace HO541 := Aside0.mk (Kd.R_below (U HO541.out) hb); replace HB := BS hb; (try clear hb)))
                      go_meet
                      case rel => exact ⟨_, (!t542), sR, H', ⟨by have := HJ3.out; have := HK2.out; have := HK3.out; first | omega | exact Nat.le_refl _⟩, ⟨Kd.SM HO_7.out (fun _ hk => trivial)⟩, ⟨BU⟩⟩
                    rw [if_neg c16] at H; have c16b0 : (x8_2 == 0) = false := beq_eq_false_iff_ne.mpr c16; have c16b1 : (x8_2 != 0) = true := bne_iff_ne.mpr c16
                    (first | rw [c16b0] | (simp only [i64_w, i32_w]; rw [c16b0]) | skip)
                    obtain ⟨y543, hy543⟩ : ∃ y_ : List Int, y_ = (([x8_2, x9_3] : List Int)) := ⟨_, rfl⟩; replace H : ((spec_l6kPlain.f k3 y543).bind fun t546 => (spec_ConicMany.j3 k3 l0 l1 a2 x7_3 x8_2 x9_3 (!t546))) = some r := rH hy543 H; have Ny543 := Aside0.mk hy543; clear hy543; obtain ⟨t546, A23, H⟩ := bnd H; have H' := Aside0.mk H; clear H
                    go_wp2_with (first | ((with_reducible refine gate_dst (N := 43) rfl ?_); (try (refine gate_guard (by rfl) ?_; dsimp only)); refine Kd.R_lit (Kd.int .i64) _ 3 ?hg (N := 43) ?hd (xs := ([x8_2, x9_3] : List Int)) (inner := [.int .i64 x8_2, .int .i64 x9_3]) (ok := fun _ => True) (okp := fun _ => True) ?hr ?hp (fun _ hk => hk) trivial (Below.refl _ _) (Nat.le_refl _) (by simp) ?_; (case hd => rfl); (case hg => rfl); (case hr => first | (go_simp; done) | (go_simp; rfl)); (case hp => exact (Reps.one (show Kd.M (Kd.int .i64) _ _ _ x8_2 [.int .i64 x8_2] from rfl) (Reps.one (show Kd.M (Kd.int .i64) _ _ _ x9_3 [.int .i64 x9_3] from rfl) (Reps.none _ _)))); intro v544 w24 ho25 hb hg_ hnew_; clear hg_ hnew_; (first | rw [← Ny543.out] at ho25 | (simp only [Int.reduceToNat] at ho25; rw [← Ny543.out] at ho25)); replace HO_7 := Aside0.mk (Kd.S_elder' (U HO_7.out) (Kd.R_base ho25) hb); have HO545 := Aside0.mk (Kd.R_lower ho25 (below_size BU)); replace HB := BS hb; clear hb ho25; obtain ⟨Ao26, co26, eo26⟩ := Kd.R_slice HO545.out; subst eo26) | (go_at_call 35; (with_reducible refine (spec_l6kPlain.calls k3 _ _ y543 t546 _ ?side1 ?side2 A23.out).mono ?_); (case side1 => exact U ((Kd.R_reads' HO545.out).2.2)); (case side2 => exact (Kd.R_reads' HO545.out).2.1); rintro e w27 ⟨rfl, hb⟩; replace HO_7 := Aside0.mk (Kd.S_below (U HO_7.out) hb); replace HO545 := Aside0.mk (Kd.R_below (U HO545.out) hb); replace HB := BS hb; (try clear hb)))
                    go_meet
                    case rel => exact ⟨_, (!t546), sR, H', ⟨by have := HJ3.out; have := HK2.out; have := HK3.out; first | omega | exact Nat.le_refl _⟩, ⟨Kd.SM HO_7.out (fun _ hk => trivial)⟩, ⟨BU⟩⟩
                  case rest =>
                    clear HC15; (try clear c10); (try clear c13); (try clear c13b0); (try clear c14); (try clear c14b0); obtain ⟨kq, x46_14, rfl, HA, HJ14, HO_7, HB⟩ := hcut; cases kq with
                    | zero => exact absurd HA.out (by simp [spec_ConicMany.j3])
                    | succ kj14 =>
                      have H := HA.out; clear HA; simp only [spec_ConicMany.j3] at H
                      by_cases c28 : x46_14 = true
                      · subst c28
                        replace H := ifT H; have H' := Aside0.mk H; clear H
                        go_wp2
                        go_roundg kj14
                        case measure => have := HJ3.out; have := HK2.out; have := HK3.out; have := HJ14.out; omega
                        case rel => exact ⟨(x7_3), (wrap64 (x9_3 + 1)), sR, H', ⟨by have := HJ3.out; have := HK2.out; have := HK3.out; have := HJ14.out; omega⟩, ⟨U HO_7.out⟩, ⟨BU⟩⟩
                      replace c28 := Bool.eq_false_iff.mpr c28; subst c28; replace H := ifF H; obtain ⟨⟨t547, t548⟩, A29, H⟩ := bnd H
                      replace H : (if t548 = true then ((spec_l6kIn.f kj14 x7_3 t547).bind fun t551 => (if t551 = true then (spec_ConicMany.l1 kj14 l0 l1 a2 x7_3 x8_2 (wrap64 (x9_3 + 1))) else (if x7_3.length < 5864062014805 then (spec_ConicMany.l1 kj14 l0 l1 a2 (x7_3 ++ [t547]) x8_2 (wrap64 (x9_3 + 1))) else (none)))) else (spec_ConicMany.l1 kj14 l0 l1 a2 x7_3 x8_2 (wrap64 (x9_3 + 1)))) = some r := H
                      by_cases c30 : t548 = true
                      · subst c30
                        replace H := ifT H; obtain ⟨t551, A31, H⟩ := bnd H
                        by_cases c32 : t551 = true
                        · subst c32
                          replace H := ifT H; have H' := Aside0.mk H; clear H
                          go_wp2_with (first | ((with_reducible refine gate_callee (f := 21) rfl ?_); refine goesK (some 52) Try.func21 #[.slice A0 l0.length c0, .slice A1 l1.length c1, .int .i64 x8_2, .int .i64 x9_3] ?_; (with_reducible refine (spec_ConicAt.calls kj14 _ _ l0 _ _ l1 x8_2 x9_3 t547 true _ ?side1 ?side2 ?side3 ?side4 A29.out).mono ?_); (case side1 => exact U (Kd.C_below HR0.out HB.out)); (case side2 => exact HC0.out); (case side3 => exact U (Kd.C_below HR1.out HB.out)); (case side4 => exact HC1.out); rintro e w33 ⟨v549, rfl, ho0, hb⟩; refine ⟨_, rfl, ?_⟩; replace HO_7 := Aside0.mk (Kd.S_elder' (U HO_7.out) (Kd.R_base ho0) hb); have HO550 := Aside0.mk (Kd.R_lower ho0 (below_size BU)); replace HB := BS hb; (try clear hb); (try clear ho0); obtain ⟨Ao34, co34, eo34⟩ := Kd.S_slice HO_7.out; subst eo34; obtain ⟨Ao35, co35, eo35⟩ := Kd.R_slice HO550.out; subst eo35) | (go_at_call 57; (with_reducible refine (spec_l6kIn.calls kj14 _ _ x7_3 _ _ t547 true _ ?side1 ?side2 ?side3 ?side4 A31.out).mono ?_); (case side1 => exact U ((Kd.S_reads' HO_7.out).2.2)); (case side2 => exact (Kd.S_reads' HO_7.out).2.1); (case side3 => exact U ((Kd.R_reads' HO550.out).2.2)); (case side4 => exact (Kd.R_reads' HO550.out).2.1); rintro e w' ⟨rfl, ⟨nd, rfl⟩⟩))
                          go_roundg kj14
                          case measure => have := HJ3.out; have := HK2.out; have := HK3.out; have := HJ14.out; omega
                          case rel => exact ⟨(x7_3), (wrap64 (x9_3 + 1)), sR, H', ⟨by have := HJ3.out; have := HK2.out; have := HK3.out; have := HJ14.out; omega⟩, ⟨Kd.SM HO_7.out (fun _ hk => trivial)⟩, ⟨BU⟩⟩
                        replace c32 := Bool.eq_false_iff.mpr c32; subst c32; replace H := ifF H; obtain ⟨c36, H⟩ := ifN H; have LMc36 := Aside0.mk c36; clear c36; obtain ⟨y552, hy552⟩ : ∃ y_ : List (List Int), y_ = (x7_3 ++ [t547]) := ⟨_, rfl⟩; replace H : (spec_ConicMany.l1 kj14 l0 l1 a2 y552 x8_2 (wrap64 (x9_3 + 1))) = some r := rH hy552 H; have Ny552 := Aside0.mk hy552; clear hy552; have H' := Aside0.mk H; clear H
                        go_wp2_with (first | ((with_reducible refine gate_callee (f := 21) rfl ?_); refine goesK (some 52) Try.func21 #[.slice A0 l0.length c0, .slice A1 l1.length c1, .int .i64 x8_2, .int .i64 x9_3] ?_; (with_reducible refine (spec_ConicAt.calls kj14 _ _ l0 _ _ l1 x8_2 x9_3 t547 true _ ?side1 ?side2 ?side3 ?side4 A29.out).mono ?_); (case side1 => exact U (Kd.C_below HR0.out HB.out)); (case side2 => exact HC0.out); (case side3 => exact U (Kd.C_below HR1.out HB.out)); (case side4 => exact HC1.out); rintro e w37 ⟨v549, rfl, ho0, hb⟩; refine ⟨_, rfl, ?_⟩; replace HO_7 := Aside0.mk (Kd.S_elder' (U HO_7.out) (Kd.R_base ho0) hb); have HO550 := Aside0.mk (Kd.R_lower ho0 (below_size BU)); replace HB := BS hb; (try clear hb); (try clear ho0); obtain ⟨Ao38, co38, eo38⟩ := Kd.S_slice HO_7.out; subst eo38; obtain ⟨Ao39, co39, eo39⟩ := Kd.R_slice HO550.out; subst eo39) | (go_at_call 57; (with_reducible refine (spec_l6kIn.calls kj14 _ _ x7_3 _ _ t547 false _ ?side1 ?side2 ?side3 ?side4 A31.out).mono ?_); (case side1 => exact U ((Kd.S_reads' HO_7.out).2.2)); (case side2 => exact (Kd.S_reads' HO_7.out).2.1); (case side3 => exact U ((Kd.R_reads' HO550.out).2.2)); (case side4 => exact (Kd.R_reads' HO550.out).2.1); rintro e w' ⟨rfl, ⟨nd, rfl⟩⟩) | ((with_reducible refine gate_builtin (b := .append) (xs := #[.tmp 62, .tmp 64]) rfl ?_); (try (refine gate_guard (by rfl) ?_; dsimp only)); at_builtin; refine Kd.S_append (Kd.slice 3 (Kd.int .i64)) (w0 := w) w.heap.size rfl (.tmp 62) (.tmp 64) 65 23 (.slice none 0 0) 24 rfl Try.underlying65 info23 rfl (by decide) (by omega) (.slice Ao38 x7_3.length co38) x7_3 t547 [.slice Ao39 t547.length co39] (fun _ => True) (fun k_ => some k_ = (.slice Ao39 t547.length co39 : Value).ownBlock) rfl rfl ?aP (fun k_ hk_ => ((Kd.R_mono (ok' := fun k_ => ((fun _ => True)) k_ ∧ some k_ ≠ (.slice Ao38 x7_3.length co38 : Value).ownBlock) (Kd.R_apart' (HO550.out) (Kd.S_typed HO_7.out) (by decide)) (fun k_ hk => ⟨trivial, hk.2⟩))).1 k_ hk_.symm) ?aF ?aO ?aB ?aS ?aL ?_; (case aP => exact Kd.M_row (Kd.R_mono (Kd.R_tight rfl (Kd.R_mono (ok' := fun k_ => ((fun _ => True)) k_ ∧ some k_ ≠ (.slice Ao38 x7_3.length co38 : Value).ownBlock) (Kd.R_apart' (HO550.out) (Kd.S_typed HO_7.out) (by decide)) (fun k_ hk => ⟨trivial, hk.2⟩))) (fun _ h_ => h_))); (case aB => exact BU); (case aF => exact (fun _ _ => trivial)); (case aO => exact (Kd.SM HO_7.out (fun k_ hk => ⟨trivial, fun e_ => hk.2 e_⟩))); (case aS => exact (below_size BU)); (case aL => have := LMc36.out; omega); intro v553 w40 ho hb hg hat; rw [← Ny552.out] at ho; have n0_ := Aside0.mk (hb); have n1_ := Aside0.mk (ho); try clear HB; clear HO_7; clear HO550; have HB := n0_; have HO554 := n1_; clear n0_ n1_; clear ho hb hg hat))
                        go_roundg kj14
                        case measure => have := HJ3.out; have := HK2.out; have := HK3.out; have := HJ14.out; omega
                        case rel => exact ⟨(y552), (wrap64 (x9_3 + 1)), sR, H', ⟨by have := HJ3.out; have := HK2.out; have := HK3.out; have := HJ14.out; omega⟩, ⟨U HO554.out⟩, ⟨BU⟩⟩
                      replace c30 := Bool.eq_false_iff.mpr c30; subst c30; replace H := ifF H; have H' := Aside0.mk H; clear H
                      go_wp2_with (first | ((with_reducible refine gate_callee (f := 21) rfl ?_); refine goesK (some 52) Try.func21 #[.slice A0 l0.length c0, .slice A1 l1.length c1, .int .i64 x8_2, .int .i64 x9_3] ?_; (with_reducible refine (spec_ConicAt.calls kj14 _ _ l0 _ _ l1 x8_2 x9_3 t547 false _ ?side1 ?side2 ?side3 ?side4 A29.out).mono ?_); (case side1 => exact U (Kd.C_below HR0.out HB.out)); (case side2 => exact HC0.out); (case side3 => exact U (Kd.C_below HR1.out HB.out)); (case side4 => exact HC1.out); rintro e w41 ⟨v549, rfl, ho0, hb⟩; refine ⟨_, rfl, ?_⟩; replace HO_7 := Aside0.mk (Kd.S_elder' (U HO_7.out) (Kd.R_base ho0) hb); have HO550 := Aside0.mk (Kd.R_lower ho0 (below_size BU)); replace HB := BS hb; (try clear hb); (try clear ho0)))
                      go_roundg kj14
                      case measure => have := HJ3.out; have := HK2.out; have := HK3.out; have := HJ14.out; omega
                      case rel => exact ⟨(x7_3), (wrap64 (x9_3 + 1)), sR, H', ⟨by have := HJ3.out; have := HK2.out; have := HK3.out; have := HJ14.out; omega⟩, ⟨Kd.SM HO_7.out (fun _ hk => trivial)⟩, ⟨BU⟩⟩
                rw [if_neg c14] at H; have c14b0 : decide (x9_3 ≤ a2) = false := decide_eq_false c14; clear c14; have H' := Aside0.mk H; clear H
                go_wp2
                go_roundg k3
                case measure => have := HJ3.out; have := HK2.out; have := HK3.out; omega
                case rel => exact ⟨(x7_3), (wrap64 (x8_2 + 1)), sR, H', ⟨by have := HJ3.out; have := HK2.out; have := HK3.out; omega⟩, ⟨U HO_7.out⟩, ⟨BU⟩⟩
          rw [if_neg c13] at H; have c13b0 : decide (x8_2 ≤ a2) = false := decide_eq_false c13; clear c13; obtain rfl := Option.some.inj H; obtain ⟨Ao42, co42, eo42⟩ := Kd.S_slice HO_7.out; subst eo42
          go_wp2
          go_ret
          exact ⟨eR, BU⟩

end Go.Proofs.Ytpaohkhmhdhibaa.PFnConicMany
