import Derived.Test.YtnbeeogmaamgdaaPFnSplitMovex0
import Derived.Test.YtnbeeogmaamgdaaPFnSplitMovex1
import Derived.Test.YtnbeeogmaamgdaaPFnSplitMovex2
namespace Go.Proofs.Ytnbeeogmaamgdaa.PFnSplitMove
open Go.RowKit Go.Proofs.YtnbeeogmaamgdaaW.PrintWords Go.Proofs.YtnbeeogmaamgdaaW.PrintLast Go.Proofs.YtnbeeogmaamgdaaW.PrintMore
attribute [local go_sem] max2_int min2_int max_two min_two max_three min_three max_four min_four   -- for this text's walks alone
set_option linter.unusedVariables false
set_option linter.unusedSimpArgs false

/-! ### impl_MoveValid: function 21 -/
mutual
def impl_MoveValid.j0 : Nat → List Int → Int → Bool → List (List Int) → Int → Option (Bool)
  | 0, _, _, _, _, _ => none
  | k + 1, x0, x5, x37, x145000, x145001 => if x37 = true then (some false) else (impl_MoveValid.l0 k x0 x5 (([x145001] : List Int)) x145000 (x145000.length : Int) 0 x145000 x145001)
def impl_MoveValid.l0 : Nat → List Int → Int → List Int → List (List Int) → Int → Int → List (List Int) → Int → Option (Bool)
  | 0, _, _, _, _, _, _, _, _ => none
  | k + 1, x0, x5, x6, x42, x43, x44, x145000, x145001 => if x44 < x43 then (if 0 ≤ x44 then (if x44 < (x42.length : Int) then ((impl_vectorOk.f k x0 (rd_L1 x42 x44) 1000000).bind fun t150 => (if t150 = true then (if x6.length + (rd_L1 x42 x44).length < 17592186044416 then (impl_MoveValid.l0 k x0 x5 (x6 ++ (rd_L1 x42 x44)) x42 x43 (wrap64 (x44 + 1)) x145000 x145001) else (none)) else (some false))) else (none)) else (none)) else ((impl_gcd.f k x6).bind fun t154 => (if t154 = 1 then (impl_MoveValid.l1 k x0 x5 x5 0 x145000 x145001) else (some false)))
def impl_MoveValid.l1 : Nat → List Int → Int → Int → Int → List (List Int) → Int → Option (Bool)
  | 0, _, _, _, _, _, _ => none
  | k + 1, x0, x5, x59, x60, x145000, x145001 => if x60 < x59 then (impl_MoveValid.l2 k x0 x5 x60 x59 x60 x5 0 x145000 x145001) else (some true)
def impl_MoveValid.l2 : Nat → List Int → Int → Int → Int → Int → Int → Int → List (List Int) → Int → Option (Bool)
  | 0, _, _, _, _, _, _, _, _, _ => none
  | k + 1, x0, x5, x9, x59, x60, x63, x64, x145000, x145001 => if x64 < x63 then (if x9 = x64 then (if 0 ≤ x9 then (if x9 < (x0.length : Int) then (impl_MoveValid.j4 k x0 x5 x9 x64 (wrap64 ((wrap64 ((rd x0 x9) * x145001)) * x145001)) x59 x60 x63 x64 x145000 x145001) else (none)) else (none)) else (impl_MoveValid.j4 k x0 x5 x9 x64 0 x59 x60 x63 x64 x145000 x145001)) else (impl_MoveValid.l1 k x0 x5 x59 (wrap64 (x60 + 1)) x145000 x145001)
def impl_MoveValid.j4 : Nat → List Int → Int → Int → Int → Int → Int → Int → Int → Int → List (List Int) → Int → Option (Bool)
  | 0, _, _, _, _, _, _, _, _, _, _, _ => none
  | k + 1, x0, x5, x9, x10, x11, x59, x60, x63, x64, x145000, x145001 => (impl_column.f k x145000 x145001 x9).bind fun t156 => ((impl_column.f k x145000 x145001 x10).bind fun t159 => ((impl_pair.f k x0 t156 t159).bind fun t162 => (if t162 = x11 then (impl_MoveValid.l2 k x0 x5 x9 x59 x60 x63 (wrap64 (x64 + 1)) x145000 x145001) else (some false))))
end
def impl_MoveValid.f (k : Nat) (l0 : List Int) (l1_0 : List (List Int)) (a1_1 : Int) : Option (Bool) := (impl_FormValid.f k l0).bind fun t145 => (if t145 = true then (if (l0.length : Int) > 3 then (impl_MoveValid.j0 k l0 (l0.length : Int) true l1_0 a1_1) else (if (l1_0.length : Int) = (l0.length : Int) then (if a1_1 < 1 then (impl_MoveValid.j0 k l0 (l0.length : Int) true l1_0 a1_1) else (impl_MoveValid.j0 k l0 (l0.length : Int) (decide (a1_1 > 10000)) l1_0 a1_1)) else (impl_MoveValid.j0 k l0 (l0.length : Int) true l1_0 a1_1))) else (impl_MoveValid.j0 k l0 (l0.length : Int) true l1_0 a1_1))
theorem impl_MoveValid.mono_l : ∀ k, (∀ y0 y1 y2 y3 y4, LeO (impl_MoveValid.j0 k y0 y1 y2 y3 y4) (impl_MoveValid.j0 (k + 1) y0 y1 y2 y3 y4)) ∧ (∀ y0 y1 y2 y3 y4 y5 y6 y7, LeO (impl_MoveValid.l0 k y0 y1 y2 y3 y4 y5 y6 y7) (impl_MoveValid.l0 (k + 1) y0 y1 y2 y3 y4 y5 y6 y7)) ∧ (∀ y0 y1 y2 y3 y4 y5, LeO (impl_MoveValid.l1 k y0 y1 y2 y3 y4 y5) (impl_MoveValid.l1 (k + 1) y0 y1 y2 y3 y4 y5)) ∧ (∀ y0 y1 y2 y3 y4 y5 y6 y7 y8, LeO (impl_MoveValid.l2 k y0 y1 y2 y3 y4 y5 y6 y7 y8) (impl_MoveValid.l2 (k + 1) y0 y1 y2 y3 y4 y5 y6 y7 y8)) ∧ (∀ y0 y1 y2 y3 y4 y5 y6 y7 y8 y9 y10, LeO (impl_MoveValid.j4 k y0 y1 y2 y3 y4 y5 y6 y7 y8 y9 y10) (impl_MoveValid.j4 (k + 1) y0 y1 y2 y3 y4 y5 y6 y7 y8 y9 y10))
  | 0 => ⟨fun _ _ _ _ _ r h => by simp [impl_MoveValid.j0] at h, fun _ _ _ _ _ _ _ _ r h => by simp [impl_MoveValid.l0] at h, fun _ _ _ _ _ _ r h => by simp [impl_MoveValid.l1] at h, fun _ _ _ _ _ _ _ _ _ r h => by simp [impl_MoveValid.l2] at h, fun _ _ _ _ _ _ _ _ _ _ _ r h => by simp [impl_MoveValid.j4] at h⟩
  | k + 1 => by
    obtain ⟨ih0, ih1, ih2, ih3, ih4⟩ := impl_MoveValid.mono_l k
    refine ⟨?_, ?_, ?_, ?_, ?_⟩ <;> intros <;> (first | unfold impl_MoveValid.j0 | unfold impl_MoveValid.l0 | unfold impl_MoveValid.l1 | unfold impl_MoveValid.l2 | unfold impl_MoveValid.j4) <;> (with_reducible repeat' first | exact ih0 _ _ _ _ _ | exact ih1 _ _ _ _ _ _ _ _ | exact ih2 _ _ _ _ _ _ | exact ih3 _ _ _ _ _ _ _ _ _ | exact ih4 _ _ _ _ _ _ _ _ _ _ _ | exact impl_FormValid.mono _ _ | exact impl_column.mono _ _ _ _ | exact impl_gcd.mono _ _ | exact impl_pair.mono _ _ _ _ | exact impl_vectorOk.mono _ _ _ _ | exact LeO.refl _ | exact LeO.none _ | refine LeO.ite ?_ ?_ | refine LeO.bind ?_ (fun _ => ?_))
theorem impl_MoveValid.mono : ∀ a0 a1 a2 k, LeO (impl_MoveValid.f k a0 a1 a2) (impl_MoveValid.f (k + 1) a0 a1 a2) := by
  intro a0 a1 a2 k
  obtain ⟨ih0, ih1, ih2, ih3, ih4⟩ := impl_MoveValid.mono_l k
  unfold impl_MoveValid.f
  with_reducible repeat' first | exact ih0 _ _ _ _ _ | exact ih1 _ _ _ _ _ _ _ _ | exact ih2 _ _ _ _ _ _ | exact ih3 _ _ _ _ _ _ _ _ _ | exact ih4 _ _ _ _ _ _ _ _ _ _ _ | exact impl_FormValid.mono _ _ | exact impl_column.mono _ _ _ _ | exact impl_gcd.mono _ _ | exact impl_pair.mono _ _ _ _ | exact impl_vectorOk.mono _ _ _ _ | exact LeO.refl _ | exact LeO.none _ | refine LeO.ite ?_ ?_ | refine LeO.bind ?_ (fun _ => ?_)
def impl_MoveValid.T22 : Bool × List (List Nat × List Nat) := (true, [([], []), ([], []), ([0, 1], [0, 1]), ([2], [2]), ([], []), ([4], [4]), ([3, 5], [3, 5]), ([], []), ([7], [7]), ([6, 8], [6, 8]), ([9, 0, 1, 2, 3, 4, 5, 6, 7, 8, 9], [9])])
def impl_MoveValid.B22 : List Nat := [0, 0, 3, 7, 0, 16, 63, 0, 128, 511, 1023]
theorem impl_MoveValid.tab22 : rtab .any (opsOf Try.f21 22) = impl_MoveValid.T22 := by kernel_rfl
theorem impl_MoveValid.bits22 : waitsOk impl_MoveValid.T22.2 impl_MoveValid.B22 = true := by kernel_rfl
def impl_MoveValid.T23 : Bool × List (List Nat × List Nat) := (true, [([], []), ([], []), ([], []), ([1, 2], [1, 2]), ([], []), ([], []), ([4, 5, 3], [4, 5]), ([0, 3, 6, 6], [0, 3, 6]), ([], []), ([7, 8], [7, 8])])
def impl_MoveValid.B23 : List Nat := [0, 0, 0, 6, 0, 0, 62, 127, 0, 511]
theorem impl_MoveValid.tab23 : rtab .any (opsOf Try.f21 23) = impl_MoveValid.T23 := by kernel_rfl
theorem impl_MoveValid.bits23 : waitsOk impl_MoveValid.T23.2 impl_MoveValid.B23 = true := by kernel_rfl
set_option maxHeartbeats 8000000 in
set_option maxRecDepth 100000 in
theorem impl_MoveValid.calls (k : Nat) (A0 : Option Addr) (c0 : Nat) (l0 : List Int) (A1_0 : Option Addr) (c1_0 : Nat) (l1_0 : List (List Int)) (a1_1 : Int) (r : Bool) (w : World) (hr0 : Kd.C (Kd.int .i64) w A0 l0.length l0) (hc0 : l0.length ≤ c0) (hr1_0 : Kd.C (Kd.slice 3 (Kd.int .i64)) w A1_0 l1_0.length l1_0) (hc1_0 : l1_0.length ≤ c1_0) (h : impl_MoveValid.f k l0 l1_0 a1_1 = some r) :
    Calls Try.prog 21 #[.slice A0 l0.length c0, .agg #[.slice A1_0 l1_0.length c1_0, .int .i64 a1_1]] w fun e w' => e = .returned (.bool r) ∧ Below w.heap.size w w' := by
  have hu27 := Try.underlying27; have HR0 := Aside0.mk hr0; have HC0 := Aside0.mk hc0; clear hr0 hc0; have HR1_0 := Aside0.mk hr1_0; have HC1_0 := Aside0.mk hc1_0; clear hr1_0 hc1_0; have HB := Aside0.mk (Below.refl w.heap.size w); unfold impl_MoveValid.f at h; have H := h; clear h; have HC3 := Aside0.mk H; clear H; go_enter Try.func21, Try.ntmps21
  go_upto_region 2 with (first | ((with_reducible refine gate_dst (N := 3) rfl ?_); (try (refine gate_guard (by rfl) ?_; dsimp only)); refine boxE (N := 3) (cs := #[.slice A1_0 l1_0.length c1_0, .int .i64 a1_1]) (t := 27) ?_; intro gb144 hg w4 hbox hb; have BK144 := Aside0.mk (hbox); have GW144 := GS w hg; have GE144 := GS w hg; replace HB := BS hb; clear hb hbox hg))
  (try simp only [Act.put, List.setIfInBounds_toArray, List.set_cons_zero, List.set_cons_succ])
  go_cut [37] (fun v37 wc => ∃ (kq : Nat) (x37_2 : Bool), v37 = .bool x37_2 ∧ Aside0 (impl_MoveValid.j0 kq l0 (l0.length : Int) x37_2 l1_0 a1_1 = some r) ∧ Aside0 (kq ≤ k) ∧ Aside0 (wc.heap[gb144]? = some (.cells #[(.slice A1_0 l1_0.length c1_0), .int .i64 a1_1] 27 (0, 0))) ∧ Aside0 (Below w.heap.size w wc))
  case first =>
    have H := HC3.out; clear HC3; obtain ⟨t145, A5, H⟩ := bnd H
    by_cases c6 : t145 = true
    · subst c6
      replace H := ifT H
      by_cases c7 : (l0.length : Int) > 3
      · rw [if_pos c7] at H
        have c7b0 : decide (3 < (l0.length : Int)) = true := decide_eq_true c7; have c7b1 : decide (3 < l0.length) = true := decide_eq_true (by omega); clear c7
        (first | rw [c7b0] | (simp only [i64_w, i32_w]; rw [c7b0]) | skip)
        have H' := Aside0.mk H; clear H
        go_wp2_with (first | ((with_reducible refine gate_callee (f := 52) rfl ?_); refine goesK (some 15) Try.func52 #[.slice A0 l0.length c0] ?_; (with_reducible refine (impl_FormValid.calls k _ _ l0 true _ ?side1 ?side2 A5.out).mono ?_); (case side1 => exact U (Kd.C_below HR0.out HB.out)); (case side2 => exact HC0.out); rintro e w8 ⟨rfl, hb⟩; refine ⟨_, rfl, ?_⟩; replace BK144 := bB BK144 hb; replace HB := BS hb; (try clear hb)))
        go_meet
        case rel => exact ⟨_, (true), sR, H', ⟨oR⟩, ⟨U BK144.out⟩, ⟨BU⟩⟩
      rw [if_neg c7] at H; have c7b0 : decide (3 < (l0.length : Int)) = false := decide_eq_false c7; have c7b1 : decide (3 < l0.length) = false := decide_eq_false (by omega); clear c7
      (first | rw [c7b0] | (simp only [i64_w, i32_w]; rw [c7b0]) | skip)
      by_cases c9 : (l1_0.length : Int) = (l0.length : Int)
      · rw [if_pos c9] at H
        have c9b0 : ((l1_0.length : Int) == (l0.length : Int)) = true := beq_iff_eq.mpr c9; have c9b1 : ((l1_0.length : Int) != (l0.length : Int)) = false := bne_eq_false_iff_eq.mpr c9
        have c9b2 : (l1_0.length == l0.length) = true := by first | simpa using c9 | (simp at c9 ⊢; omega)
        clear c9
        by_cases c10 : a1_1 < 1
        · rw [if_pos c10] at H
          have c10b0 : decide (a1_1 < 1) = true := decide_eq_true c10; clear c10; have H' := Aside0.mk H; clear H
          go_wp2_with (first | ((with_reducible refine gate_callee (f := 52) rfl ?_); refine goesK (some 15) Try.func52 #[.slice A0 l0.length c0] ?_; (with_reducible refine (impl_FormValid.calls k _ _ l0 true _ ?side1 ?side2 A5.out).mono ?_); (case side1 => exact U (Kd.C_below HR0.out HB.out)); (case side2 => exact HC0.out); rintro e w11 ⟨rfl, hb⟩; refine ⟨_, rfl, ?_⟩; replace BK144 := bB BK144 hb; replace HB := BS hb; (try clear hb); obtain ⟨hcz12_0, hcz12_1, hfz12_0, hfz12_1⟩ := bcf BK144))
          go_meet
          case rel => exact ⟨_, (true), sR, H', ⟨oR⟩, ⟨U BK144.out⟩, ⟨BU⟩⟩
        rw [if_neg c10] at H; have c10b0 : decide (a1_1 < 1) = false := decide_eq_false c10; clear c10; have H' := Aside0.mk H; clear H
        go_wp2_with (first | ((with_reducible refine gate_callee (f := 52) rfl ?_); refine goesK (some 15) Try.func52 #[.slice A0 l0.length c0] ?_; (with_reducible refine (impl_FormValid.calls k _ _ l0 true _ ?side1 ?side2 A5.out).mono ?_); (case side1 => exact U (Kd.C_below HR0.out HB.out)); (case side2 => exact HC0.out); rintro e w13 ⟨rfl, hb⟩; refine ⟨_, rfl, ?_⟩; replace BK144 := bB BK144 hb; replace HB := BS hb; (try clear hb); obtain ⟨hcz14_0, hcz14_1, hfz14_0, hfz14_1⟩ := bcf BK144))
        go_meet
        case rel => exact ⟨_, (decide (a1_1 > 10000)), sR, H', ⟨oR⟩, ⟨U BK144.out⟩, ⟨BU⟩⟩
      rw [if_neg c9] at H; have c9b0 : ((l1_0.length : Int) == (l0.length : Int)) = false := beq_eq_false_iff_ne.mpr c9; have c9b1 : ((l1_0.length : Int) != (l0.length : Int)) = true := bne_iff_ne.mpr c9
      have c9b2 : (l1_0.length == l0.length) = false := by first | simpa using c9 | (simp at c9 ⊢; omega)
      have H' := Aside0.mk H; clear H
      go_wp2_with (first | ((with_reducible refine gate_callee (f := 52) rfl ?_); refine goesK (some 15) Try.func52 #[.slice A0 l0.length c0] ?_; (with_reducible refine (impl_FormValid.calls k _ _ l0 true _ ?side1 ?side2 A5.out).mono ?_); (case side1 => exact U (Kd.C_below HR0.out HB.out)); (case side2 => exact HC0.out); rintro e w15 ⟨rfl, hb⟩; refine ⟨_, rfl, ?_⟩; replace BK144 := bB BK144 hb; replace HB := BS hb; (try clear hb); obtain ⟨hcz16_0, hcz16_1, hfz16_0, hfz16_1⟩ := bcf BK144))
      go_meet
      case rel => exact ⟨_, (true), sR, H', ⟨oR⟩, ⟨U BK144.out⟩, ⟨BU⟩⟩
    replace c6 := Bool.eq_false_iff.mpr c6; subst c6; replace H := ifF H; have H' := Aside0.mk H; clear H
    go_wp2_with (first | ((with_reducible refine gate_callee (f := 52) rfl ?_); refine goesK (some 15) Try.func52 #[.slice A0 l0.length c0] ?_; (with_reducible refine (impl_FormValid.calls k _ _ l0 false _ ?side1 ?side2 A5.out).mono ?_); (case side1 => exact U (Kd.C_below HR0.out HB.out)); (case side2 => exact HC0.out); rintro e w17 ⟨rfl, hb⟩; refine ⟨_, rfl, ?_⟩; replace BK144 := bB BK144 hb; replace HB := BS hb; (try clear hb)))
    go_meet
    case rel => exact ⟨_, (true), sR, H', ⟨oR⟩, ⟨U BK144.out⟩, ⟨BU⟩⟩
  case rest =>
    clear HC3; obtain ⟨kq, x37_2, rfl, HA, HJ2, BK144, HB⟩ := hcut; cases kq with
    | zero => exact absurd HA.out (by simp [impl_MoveValid.j0])
    | succ kj2 =>
      have H := HA.out; clear HA; simp only [impl_MoveValid.j0] at H
      by_cases c18 : x37_2 = true
      · subst c18
        replace H := ifT H; obtain rfl := Option.some.inj H
        go_wp2
        go_ret
        exact ⟨eR, BU⟩
      replace c18 := Bool.eq_false_iff.mpr c18; subst c18; replace H := ifF H; obtain ⟨y146, hy146⟩ : ∃ y_ : List Int, y_ = (([a1_1] : List Int)) := ⟨_, rfl⟩; replace H : (impl_MoveValid.l0 kj2 l0 (l0.length : Int) y146 l1_0 (l1_0.length : Int) 0 l1_0 a1_1) = some r := rH hy146 H; have Ny146 := Aside0.mk hy146; clear hy146; have H' := Aside0.mk H; clear H; obtain ⟨hcz19_0, hcz19_1, hfz19_0, hfz19_1⟩ := bcf BK144
      go_wp2_with (first | ((with_reducible refine gate_dst (N := 40) rfl ?_); (try (refine gate_guard (by rfl) ?_; dsimp only)); refine Kd.R_lit (Kd.int .i64) _ 3 ?hg (N := 40) ?hd (xs := ([a1_1] : List Int)) (inner := [.int .i64 a1_1]) (ok := fun _ => True) (okp := fun _ => True) ?hr ?hp (fun _ hk => hk) trivial (Below.refl _ _) (Nat.le_refl _) (by simp) ?_; (case hd => rfl); (case hg => rfl); (case hr => first | (go_simp; done) | (go_simp; rfl)); (case hp => exact (Reps.one (show Kd.M (Kd.int .i64) _ _ _ a1_1 [.int .i64 a1_1] from rfl) (Reps.none _ _))); intro v147 w20 ho21 hb hg_ hnew_; clear hg_ hnew_; (first | rw [← Ny146.out] at ho21 | (simp only [Int.reduceToNat] at ho21; rw [← Ny146.out] at ho21)); have HO148 := Aside0.mk (Kd.R_lower ho21 (below_size BU)); replace BK144 := bB BK144 hb; replace HB := BS hb; clear hb ho21; obtain ⟨hcz22_0, hcz22_1, hfz22_0, hfz22_1⟩ := bcf BK144))
      go_loopg [6, 44] kj2 (fun kq v6 v44 w' => ∃ (x6_2 : List Int) (x44_2 : Int), v44 = .int .i64 x44_2 ∧ Aside0 (impl_MoveValid.l0 kq l0 (l0.length : Int) x6_2 l1_0 (l1_0.length : Int) x44_2 l1_0 a1_1 = some r) ∧ Aside0 (kq ≤ kj2) ∧ Aside0 (Kd.R (Kd.int .i64) 3 w' w.heap.size (fun _ => True) v6 x6_2) ∧ Aside0 (w'.heap[gb144]? = some (.cells #[(.slice A1_0 l1_0.length c1_0), .int .i64 a1_1] 27 (0, 0))) ∧ Aside0 (Below w.heap.size w w'))
      case atStart => exact ⟨(y146), (0), sR, H', ⟨Nat.le_refl _⟩, ⟨U HO148.out⟩, ⟨U BK144.out⟩, ⟨BU⟩⟩
      case round =>
        clear H'; (try clear c18); (try clear hcz19_0); (try clear hcz19_1); (try clear hcz22_0); (try clear hcz22_1); (try clear hfz19_0); (try clear hfz19_1); (try clear hfz22_0); (try clear hfz22_1); obtain ⟨x6_2, x44_2, rfl, HA, HK2, HO_6, BK144, HB⟩ := hrel; cases gk with
        | zero => exact absurd HA.out (by simp [impl_MoveValid.l0])
        | succ k2 =>
          have H := HA.out; clear HA; simp only [impl_MoveValid.l0] at H
          by_cases c23 : x44_2 < (l1_0.length : Int)
          · rw [if_pos c23] at H
            have c23b0 : decide (x44_2 < (l1_0.length : Int)) = true := decide_eq_true c23; clear c23; obtain ⟨c24, H⟩ := ifN H; have c24b0 : decide (0 ≤ x44_2) = true := decide_eq_true c24; clear c24; obtain ⟨c25, H⟩ := ifN H; have c25b0 : decide (x44_2 < (l1_0.length : Int)) = true := decide_eq_true c25; clear c25; obtain ⟨t150, A26, H⟩ := bnd H
            by_cases c27 : t150 = true
            · subst c27
              replace H := ifT H; obtain ⟨c28, H⟩ := ifN H; have LMc28 := Aside0.mk c28; clear c28; obtain ⟨y151, hy151⟩ : ∃ y_ : List Int, y_ = (x6_2 ++ (rd_L1 l1_0 x44_2)) := ⟨_, rfl⟩; replace H : (impl_MoveValid.l0 k2 l0 (l0.length : Int) y151 l1_0 (l1_0.length : Int) (wrap64 (x44_2 + 1)) l1_0 a1_1) = some r := rH hy151 H; have Ny151 := Aside0.mk hy151; clear hy151; have H' := Aside0.mk H; clear H; have p149 : 0 ≤ (x44_2 : Int) := oD; have q149 : x44_2 < (l1_0.length : Int) := oD; obtain ⟨ad149, A149_0, c149_0, e149, hx149_0, hl149_0, hi149_0⟩ := at_L1 HR1_0.out x44_2 p149 q149; cases e149; replace hx149_0 := (HB.out.cell (World.block_lt_of_cell? w _ hx149_0)).trans hx149_0; have HR149_0 := Aside0.mk hi149_0; have HC149_0 := Aside0.mk hl149_0; clear hi149_0 hl149_0; replace p149 := eq_true p149; replace q149 := eq_true q149
              go_wp2_with (first | ((with_reducible refine gate_callee (f := 56) rfl ?_); refine goesK (some 50) Try.func56 #[.slice A0 l0.length c0, .slice A149_0 (rd_L1 l1_0 x44_2).length c149_0, .int .i64 1000000] ?_; (with_reducible refine (impl_vectorOk.calls k2 _ _ l0 _ _ (rd_L1 l1_0 x44_2) 1000000 true _ ?side1 ?side2 ?side3 ?side4 A26.out).mono ?_); (case side1 => exact U (Kd.C_below HR0.out HB.out)); (case side2 => exact HC0.out); (case side3 => exact U (Kd.C_below HR149_0.out HB.out)); (case side4 => exact HC149_0.out); rintro e w' ⟨rfl, ⟨nd, rfl⟩⟩; refine ⟨_, rfl, ?_⟩) | ((with_reducible refine gate_builtin (b := .append) (xs := #[.tmp 52, .tmp 53]) rfl ?_); (try (refine gate_guard (by rfl) ?_; dsimp only)); at_builtin; refine Kd.R_append_rows (Kd.int .i64) (w0 := w) w.heap.size rfl (.tmp 52) (.tmp 53) 23 3 (.int .i64 0) 8 rfl Try.underlying23 info3 rfl (by decide) (by omega) u6 x6_2 (rd_L1 l1_0 x44_2) _ _ _ (fun _ => True) (fun _ => False) rfl rfl ?aO ?aR (fun _ _ h => h) (fun _ h => h.elim) ?aF ?aB ?aS ?aL ?_; (case aR => exact U (Kd.C_below HR149_0.out BU)); (case aB => exact BU); (case aF => exact (fun _ _ => trivial)); (case aO => exact (U HO_6.out)); (case aS => exact (below_size BU)); (case aL => have := LMc28.out; omega); intro v152 w29 ho hb hg hat; rw [← Ny151.out] at ho; have n0_ := bG BK144 hg (Kd.R_ne HO_6.out BK144.out (by decide)); have n1_ := Aside0.mk (hb); have n2_ := Aside0.mk (ho); clear BK144; try clear HB; clear HO_6; have BK144 := n0_; have HB := n1_; have HO153 := n2_; clear n0_ n1_ n2_; clear ho hb hg hat))
              go_roundg k2
              case measure => have := HJ2.out; have := HK2.out; omega
              case rel => exact ⟨(y151), (wrap64 (x44_2 + 1)), sR, H', ⟨by have := HJ2.out; have := HK2.out; omega⟩, ⟨U HO153.out⟩, ⟨U BK144.out⟩, ⟨BU⟩⟩
            replace c27 := Bool.eq_false_iff.mpr c27; subst c27; replace H := ifF H; obtain rfl := Option.some.inj H; have p149 : 0 ≤ (x44_2 : Int) := oD; have q149 : x44_2 < (l1_0.length : Int) := oD; obtain ⟨ad149, A149_0, c149_0, e149, hx149_0, hl149_0, hi149_0⟩ := at_L1 HR1_0.out x44_2 p149 q149; cases e149; replace hx149_0 := (HB.out.cell (World.block_lt_of_cell? w _ hx149_0)).trans hx149_0; have HR149_0 := Aside0.mk hi149_0; have HC149_0 := Aside0.mk hl149_0; clear hi149_0 hl149_0; replace p149 := eq_true p149; replace q149 := eq_true q149
            go_wp2_with (first | ((with_reducible refine gate_callee (f := 56) rfl ?_); refine goesK (some 50) Try.func56 #[.slice A0 l0.length c0, .slice A149_0 (rd_L1 l1_0 x44_2).length c149_0, .int .i64 1000000] ?_; (with_reducible refine (impl_vectorOk.calls k2 _ _ l0 _ _ (rd_L1 l1_0 x44_2) 1000000 false _ ?side1 ?side2 ?side3 ?side4 A26.out).mono ?_); (case side1 => exact U (Kd.C_below HR0.out HB.out)); (case side2 => exact HC0.out); (case side3 => exact U (Kd.C_below HR149_0.out HB.out)); (case side4 => exact HC149_0.out); rintro e w' ⟨rfl, ⟨nd, rfl⟩⟩; refine ⟨_, rfl, ?_⟩))
            go_ret
            exact ⟨eR, BU⟩
          rw [if_neg c23] at H; have c23b0 : decide (x44_2 < (l1_0.length : Int)) = false := decide_eq_false c23; clear c23; obtain ⟨t154, A30, H⟩ := bnd H
          by_cases c31 : t154 = 1
          · rw [if_pos c31] at H
            have c31b0 : (t154 == 1) = true := beq_iff_eq.mpr c31; have c31b1 : (t154 != 1) = false := bne_eq_false_iff_eq.mpr c31; clear c31; have H' := Aside0.mk H; clear H; obtain ⟨Ao32, co32, eo32⟩ := Kd.R_slice HO_6.out; subst eo32
            go_wp2_with (first | ((with_reducible refine gate_callee (f := 63) rfl ?_); refine goesK (some 57) Try.func63 #[.slice Ao32 x6_2.length co32] ?_; (with_reducible refine (impl_gcd.calls k2 _ _ x6_2 t154 _ ?side1 ?side2 A30.out).mono ?_); (case side1 => exact U ((Kd.R_reads' HO_6.out).2.2)); (case side2 => exact (Kd.R_reads' HO_6.out).2.1); rintro e w33 ⟨rfl, hb⟩; refine ⟨_, rfl, ?_⟩; replace HO_6 := Aside0.mk (Kd.R_below (U HO_6.out) hb); replace BK144 := bB BK144 hb; replace HB := BS hb; (try clear hb)))
            go_loopg [60] k2 (fun kq v60 w' => ∃ (x60_3 : Int), v60 = .int .i64 x60_3 ∧ Aside0 (impl_MoveValid.l1 kq l0 (l0.length : Int) (l0.length : Int) x60_3 l1_0 a1_1 = some r) ∧ Aside0 (kq ≤ k2) ∧ Aside0 (w'.heap[gb144]? = some (.cells #[(.slice A1_0 l1_0.length c1_0), .int .i64 a1_1] 27 (0, 0))) ∧ Aside0 (Below w.heap.size w w'))
            case atStart => exact ⟨(0), sR, H', ⟨Nat.le_refl _⟩, ⟨U BK144.out⟩, ⟨BU⟩⟩
            case round =>
              clear H'; (try clear c18); (try clear c23); (try clear c23b0); (try clear c31); (try clear c31b0); (try clear c31b1); (try clear hcz19_0); (try clear hcz19_1); (try clear hcz22_0); (try clear hcz22_1); (try clear hfz19_0); (try clear hfz19_1); (try clear hfz22_0); (try clear hfz22_1); obtain ⟨x60_3, rfl, HA, HK3, BK144, HB⟩ := hrel; cases gk with
              | zero => exact absurd HA.out (by simp [impl_MoveValid.l1])
              | succ k3 =>
                have H := HA.out; clear HA; simp only [impl_MoveValid.l1] at H
                by_cases c34 : x60_3 < (l0.length : Int)
                · rw [if_pos c34] at H
                  have c34b0 : decide (x60_3 < (l0.length : Int)) = true := decide_eq_true c34; clear c34; have H' := Aside0.mk H; clear H
                  go_wp2
                  go_loopg [64] k3 (fun kq v64 w' => ∃ (x64_4 : Int), v64 = .int .i64 x64_4 ∧ Aside0 (impl_MoveValid.l2 kq l0 (l0.length : Int) x60_3 (l0.length : Int) x60_3 (l0.length : Int) x64_4 l1_0 a1_1 = some r) ∧ Aside0 (kq ≤ k3) ∧ Aside0 (w'.heap[gb144]? = some (.cells #[(.slice A1_0 l1_0.length c1_0), .int .i64 a1_1] 27 (0, 0))) ∧ Aside0 (Below w.heap.size w w'))
                  case atStart => exact ⟨(0), sR, H', ⟨Nat.le_refl _⟩, ⟨U BK144.out⟩, ⟨BU⟩⟩
                  case round =>
                    clear H'; (try clear c18); (try clear c23); (try clear c23b0); (try clear c31); (try clear c31b0); (try clear c31b1); (try clear c34); (try clear c34b0); (try clear hcz19_0); (try clear hcz19_1); (try clear hcz22_0); (try clear hcz22_1); (try clear hfz19_0); (try clear hfz19_1); (try clear hfz22_0); (try clear hfz22_1); obtain ⟨x64_4, rfl, HA, HK4, BK144, HB⟩ := hrel; cases gk with
                    | zero => exact absurd HA.out (by simp [impl_MoveValid.l2])
                    | succ k4 =>
                      have H := HA.out; clear HA; simp only [impl_MoveValid.l2] at H
                      by_cases c35 : x64_4 < (l0.length : Int)
                      · rw [if_pos c35] at H
                        have c35b0 : decide (x64_4 < (l0.length : Int)) = true := decide_eq_true c35; clear c35; have HC36 := Aside0.mk H; clear H
                        go_upto_if 69 with (fail)
                        go_cut [11] (fun v11 wc => ∃ (kq : Nat) (x11_35 : Int), v11 = .int .i64 x11_35 ∧ Aside0 (impl_MoveValid.j4 kq l0 (l0.length : Int) x60_3 x64_4 x11_35 (l0.length : Int) x60_3 (l0.length : Int) x64_4 l1_0 a1_1 = some r) ∧ Aside0 (kq ≤ k4) ∧ Aside0 (wc.heap[gb144]? = some (.cells #[(.slice A1_0 l1_0.length c1_0), .int .i64 a1_1] 27 (0, 0))) ∧ Aside0 (Below w.heap.size w wc))
                        case first =>
                          have H := HC36.out; clear HC36
                          by_cases c37 : x60_3 = x64_4
                          · rw [if_pos c37] at H
                            have c37b0 : (x60_3 == x64_4) = true := beq_iff_eq.mpr c37; have c37b1 : (x60_3 != x64_4) = false := bne_eq_false_iff_eq.mpr c37; clear c37
                            (first | rw [c37b0] | (simp only [i64_w, i32_w]; rw [c37b0]) | skip)
                            obtain ⟨c38, H⟩ := ifN H; have c38b0 : decide (0 ≤ x60_3) = true := decide_eq_true c38; clear c38; obtain ⟨c39, H⟩ := ifN H; have c39b0 : decide (x60_3 < (l0.length : Int)) = true := decide_eq_true c39; clear c39; have H' := Aside0.mk H; clear H
                            try go_wp2
                            replace BK144 := Aside0.mk (blk_drew BK144.out); replace HB := Aside0.mk (below_drew1 HB.out); have p155 : 0 ≤ (x60_3 : Int) := oD; have q155 : x60_3 < (l0.length : Int) := oD; obtain ⟨ad155, e155, hx155_0⟩ := Kd.at_int HR0.out x60_3 p155 q155; have hw155_0 := hx155_0; cases e155; replace hx155_0 := (HB.out.cell (World.block_lt_of_cell? w _ hx155_0)).trans hx155_0; replace p155 := eq_true p155; replace q155 := eq_true q155
                            refine start_ (n := 11) (S := fun w' => w'.cell? ⟨gb144, 0, none⟩ = some (.slice A1_0 l1_0.length c1_0) ∧ w'.cell? ⟨gb144, 1, none⟩ = some (.int .i64 a1_1) ∧ w'.cell? (ad155.add (x60_3).toNat) = some (.int .i64 (rd l0 x60_3))) (ds := []) #[false, false, false, false, false, false, false, false, false, false, false] (by kernel_rfl) rfl rfl ⟨(blk_cell BK144.out 0).trans rfl, (blk_cell BK144.out 1).trans rfl, ((HB.out.cell (World.block_lt_of_cell? w _ hw155_0)).trans hw155_0)⟩ (fun hHeld => ?_); refine with_tabW impl_MoveValid.tab22 impl_MoveValid.bits22 (fun HT_ HW_ => ?_)
                            generalize wr.drew = w40 at BK144 HB hx155_0 hHeld ⊢
                            refine pure_ (i := 0) (N := some 70) (v := ?_) (a' := ?_) #[true, false, false, false, false, false, false, false, false, false, false] rfl rfl (any_of HT_.out (by kernel_rfl)) (fun _ _ _ h => h) (Or.inl ⟨by rfl, ?_⟩) ?_ ?_
                            rotate_left
                            · intro w'
                              go_simp
                              with_reducible rfl
                            rotate_left
                            · simp only [Act.put, List.setIfInBounds_toArray, List.set_cons_zero, List.set_cons_succ, i64_w, i32_w]
                              rfl
                            refine pure_ (i := 1) (N := some 71) (v := ?_) (a' := ?_) #[true, true, false, false, false, false, false, false, false, false, false] rfl rfl (any_of HT_.out (by kernel_rfl)) (fun _ _ _ h => h) (Or.inl ⟨by rfl, ?_⟩) ?_ ?_
                            rotate_left
                            · intro w'
                              go_simp
                              with_reducible rfl
                            rotate_left
                            · simp only [Act.put, List.setIfInBounds_toArray, List.set_cons_zero, List.set_cons_succ, i64_w, i32_w]
                              rfl
                            refine pure_ (i := 2) (N := some 72) (v := ?_) (a' := ?_) #[true, true, true, false, false, false, false, false, false, false, false] rfl rfl (any_of HT_.out (by kernel_rfl)) (fun _ _ _ h => h) (Or.inl ⟨by rfl, ?_⟩) ?_ ?_
                            rotate_left
                            · intro w'
                              go_simp
                              with_reducible rfl
                            rotate_left
                            · simp only [Act.put, List.setIfInBounds_toArray, List.set_cons_zero, List.set_cons_succ, i64_w, i32_w]
                              rfl
                            refine pure_ (i := 4) (N := some 74) (v := ?_) (a' := ?_) #[true, true, true, false, true, false, false, false, false, false, false] rfl rfl (any_of HT_.out (by kernel_rfl)) (fun _ _ _ h => h) (Or.inl ⟨by rfl, ?_⟩) ?_ ?_
                            rotate_left
                            · intro w'
                              go_simp
                              with_reducible rfl
                            rotate_left
                            · simp only [Act.put, List.setIfInBounds_toArray, List.set_cons_zero, List.set_cons_succ, i64_w, i32_w]
                              rfl
                            refine pure_ (i := 7) (N := some 77) (v := ?_) (a' := ?_) #[true, true, true, false, true, false, false, true, false, false, false] rfl rfl (any_of HT_.out (by kernel_rfl)) (fun _ _ _ h => h) (Or.inl ⟨by rfl, ?_⟩) ?_ ?_
                            rotate_left
                            · intro w'
                              go_simp
                              with_reducible rfl
                            rotate_left
                            · simp only [Act.put, List.setIfInBounds_toArray, List.set_cons_zero, List.set_cons_succ, i64_w, i32_w]
                              rfl
                            refine take_ (i := 3) (N := some 73) (v := ?_) (a' := ?_) #[true, true, true, true, true, false, false, true, false, false, false] rfl rfl (take_ofW HT_.out HW_.out (by kernel_rfl)) (fun _ _ _ h => h) (Or.inl ⟨by rfl, ?_⟩) hHeld ?_ ?_
                            rotate_left
                            · rintro w' ⟨s0, s1, s2⟩
                              go_simp
                              with_reducible rfl
                            rotate_left
                            · simp only [Act.put, List.setIfInBounds_toArray, List.set_cons_zero, List.set_cons_succ, i64_w, i32_w]
                              rfl
                            refine take_ (i := 5) (N := some 75) (v := ?_) (a' := ?_) #[true, true, true, true, true, true, false, true, false, false, false] rfl rfl (take_ofW HT_.out HW_.out (by kernel_rfl)) (fun _ _ _ h => h) (Or.inl ⟨by rfl, ?_⟩) hHeld ?_ ?_
                            rotate_left
                            · rintro w' ⟨s0, s1, s2⟩
                              go_simp
                              with_reducible rfl
                            rotate_left
                            · simp only [Act.put, List.setIfInBounds_toArray, List.set_cons_zero, List.set_cons_succ, i64_w, i32_w]
                              rfl
                            refine pure_ (i := 6) (N := some 76) (v := ?_) (a' := ?_) #[true, true, true, true, true, true, true, true, false, false, false] rfl rfl (any_of HT_.out (by kernel_rfl)) (fun _ _ _ h => h) (Or.inl ⟨by rfl, ?_⟩) ?_ ?_
                            rotate_left
                            · intro w'
                              go_simp
                              with_reducible rfl
                            rotate_left
                            · simp only [Act.put, List.setIfInBounds_toArray, List.set_cons_zero, List.set_cons_succ, i64_w, i32_w]
                              rfl
                            refine take_ (i := 8) (N := some 78) (v := ?_) (a' := ?_) #[true, true, true, true, true, true, true, true, true, false, false] rfl rfl (take_ofW HT_.out HW_.out (by kernel_rfl)) (fun _ _ _ h => h) (Or.inl ⟨by rfl, ?_⟩) hHeld ?_ ?_
                            rotate_left
                            · rintro w' ⟨s0, s1, s2⟩
                              go_simp
                              with_reducible rfl
                            rotate_left
                            · simp only [Act.put, List.setIfInBounds_toArray, List.set_cons_zero, List.set_cons_succ, i64_w, i32_w]
                              rfl
                            refine pure_ (i := 9) (N := some 79) (v := ?_) (a' := ?_) #[true, true, true, true, true, true, true, true, true, true, false] rfl rfl (any_of HT_.out (by kernel_rfl)) (fun _ _ _ h => h) (Or.inl ⟨by rfl, ?_⟩) ?_ ?_
                            rotate_left
                            · intro w'
                              go_simp
                              with_reducible rfl
                            rotate_left
                            · simp only [Act.put, List.setIfInBounds_toArray, List.set_cons_zero, List.set_cons_succ, i64_w, i32_w]
                              rfl
                            refine pure_ (i := 10) (N := some 11) (v := ?_) (a' := ?_) #[true, true, true, true, true, true, true, true, true, true, true] rfl rfl (any_of HT_.out (by kernel_rfl)) (fun _ _ _ h => h) (Or.inl ⟨by rfl, ?_⟩) ?_ ?_
                            rotate_left
                            · intro w'
                              go_simp
                              with_reducible rfl
                            rotate_left
                            · simp only [Act.put, List.setIfInBounds_toArray, List.set_cons_zero, List.set_cons_succ, i64_w, i32_w]
                              rfl
                            refine done_ (done_of HT_.out (by kernel_rfl)) ?_
                            try go_wp2
                            go_meet
                            case rel => exact ⟨_, (wrap64 ((wrap64 ((rd l0 x60_3) * a1_1)) * a1_1)), sR, H', ⟨by have := HJ2.out; have := HK2.out; have := HK3.out; have := HK4.out; first | omega | exact Nat.le_refl _⟩, ⟨U BK144.out⟩, ⟨BU⟩⟩
                          rw [if_neg c37] at H; have c37b0 : (x60_3 == x64_4) = false := beq_eq_false_iff_ne.mpr c37; have c37b1 : (x60_3 != x64_4) = true := bne_iff_ne.mpr c37
                          (first | rw [c37b0] | (simp only [i64_w, i32_w]; rw [c37b0]) | skip)
                          have H' := Aside0.mk H; clear H
                          go_wp2
                          go_meet
                          case rel => exact ⟨_, (0), sR, H', ⟨by have := HJ2.out; have := HK2.out; have := HK3.out; have := HK4.out; first | omega | exact Nat.le_refl _⟩, ⟨U BK144.out⟩, ⟨BU⟩⟩
                        case rest =>
                          clear HC36; (try clear c18); (try clear c23); (try clear c23b0); (try clear c31); (try clear c31b0); (try clear c31b1); (try clear c34); (try clear c34b0); (try clear c35); (try clear c35b0); (try clear hcz19_0); (try clear hcz19_1); (try clear hcz22_0); (try clear hcz22_1); (try clear hfz19_0); (try clear hfz19_1); (try clear hfz22_0); (try clear hfz22_1); obtain ⟨kq, x11_35, rfl, HA, HJ35, BK144, HB⟩ := hcut; cases kq with
                          | zero => exact absurd HA.out (by simp [impl_MoveValid.j4])
                          | succ kj35 =>
                            have H := HA.out; clear HA; simp only [impl_MoveValid.j4] at H; obtain ⟨t156, A41, H⟩ := bnd H; obtain ⟨t159, A42, H⟩ := bnd H; obtain ⟨t162, A43, H⟩ := bnd H
                            by_cases c44 : t162 = x11_35
                            · rw [if_pos c44] at H
                              have c44b0 : (t162 == x11_35) = true := beq_iff_eq.mpr c44; have c44b1 : (t162 != x11_35) = false := bne_eq_false_iff_eq.mpr c44; clear c44; have H' := Aside0.mk H; clear H
                              try go_wp2
                              replace BK144 := Aside0.mk (blk_drew BK144.out); replace HB := Aside0.mk (below_drew1 HB.out)
                              refine start_ (n := 10) (S := fun w' => w'.cell? ⟨gb144, 0, none⟩ = some (.slice A1_0 l1_0.length c1_0) ∧ w'.cell? ⟨gb144, 1, none⟩ = some (.int .i64 a1_1)) (ds := []) #[false, false, false, false, false, false, false, false, false, false] (by kernel_rfl) rfl rfl ⟨(blk_cell BK144.out 0).trans rfl, (blk_cell BK144.out 1).trans rfl⟩ (fun hHeld => ?_); refine with_tabW impl_MoveValid.tab23 impl_MoveValid.bits23 (fun HT_ HW_ => ?_)
                              generalize wc.drew = w45 at BK144 HB hHeld ⊢
                              refine pure_ (i := 0) (N := some 80) (v := ?_) (a' := ?_) #[true, false, false, false, false, false, false, false, false, false] rfl rfl (any_of HT_.out (by kernel_rfl)) (fun _ _ _ h => h) (Or.inl ⟨by rfl, ?_⟩) ?_ ?_
                              rotate_left
                              · intro w'
                                go_simp
                                with_reducible rfl
                              rotate_left
                              · simp only [Act.put, List.setIfInBounds_toArray, List.set_cons_zero, List.set_cons_succ, i64_w, i32_w]
                                rfl
                              refine pure_ (i := 2) (N := some 82) (v := ?_) (a' := ?_) #[true, false, true, false, false, false, false, false, false, false] rfl rfl (any_of HT_.out (by kernel_rfl)) (fun _ _ _ h => h) (Or.inl ⟨by rfl, ?_⟩) ?_ ?_
                              rotate_left
                              · intro w'
                                go_simp
                                with_reducible rfl
                              rotate_left
                              · simp only [Act.put, List.setIfInBounds_toArray, List.set_cons_zero, List.set_cons_succ, i64_w, i32_w]
                                rfl
                              refine pure_ (i := 5) (N := some 85) (v := ?_) (a' := ?_) #[true, false, true, false, false, true, false, false, false, false] rfl rfl (any_of HT_.out (by kernel_rfl)) (fun _ _ _ h => h) (Or.inl ⟨by rfl, ?_⟩) ?_ ?_
                              rotate_left
                              · intro w'
                                go_simp
                                with_reducible rfl
                              rotate_left
                              · simp only [Act.put, List.setIfInBounds_toArray, List.set_cons_zero, List.set_cons_succ, i64_w, i32_w]
                                rfl
                              refine pure_ (i := 8) (N := some 88) (v := ?_) (a' := ?_) #[true, false, true, false, false, true, false, false, true, false] rfl rfl (any_of HT_.out (by kernel_rfl)) (fun _ _ _ h => h) (Or.inl ⟨by rfl, ?_⟩) ?_ ?_
                              rotate_left
                              · intro w'
                                go_simp
                                with_reducible rfl
                              rotate_left
                              · simp only [Act.put, List.setIfInBounds_toArray, List.set_cons_zero, List.set_cons_succ, i64_w, i32_w]
                                rfl
                              refine take_ (i := 1) (N := some 81) (v := ?_) (a' := ?_) #[true, true, true, false, false, true, false, false, true, false] rfl rfl (take_ofW HT_.out HW_.out (by kernel_rfl)) (fun _ _ _ h => h) (Or.inl ⟨by rfl, ?_⟩) hHeld ?_ ?_
                              rotate_left
                              · rintro w' ⟨s0, s1⟩
                                go_simp
                                with_reducible rfl
                              rotate_left
                              · simp only [Act.put, List.setIfInBounds_toArray, List.set_cons_zero, List.set_cons_succ, i64_w, i32_w]
                                rfl
                              refine take_ (i := 4) (N := some 84) (v := ?_) (a' := ?_) #[true, true, true, false, true, true, false, false, true, false] rfl rfl (take_ofW HT_.out HW_.out (by kernel_rfl)) (fun _ _ _ h => h) (Or.inl ⟨by rfl, ?_⟩) hHeld ?_ ?_
                              rotate_left
                              · rintro w' ⟨s0, s1⟩
                                go_simp
                                with_reducible rfl
                              rotate_left
                              · simp only [Act.put, List.setIfInBounds_toArray, List.set_cons_zero, List.set_cons_succ, i64_w, i32_w]
                                rfl
                              refine one_ (i := 3) (N := some 83) #[true, true, true, true, true, true, false, false, true, false] rfl rfl (one_of HT_.out (by kernel_rfl)) (by decide) (fun K hK => ?_)
                              refine goes_ Try.func59 (by kernel_rfl) rfl #[.agg #[.slice A1_0 l1_0.length c1_0, .int .i64 a1_1], .int .i64 x60_3] (by rfl) rfl rfl (by (try simp only [List.map_toArray, List.map_cons, List.map_nil]); first | done | rfl | (simp only [List.length_drop, List.length_take]; rfl)) ?_
                              with_reducible refine (impl_column.calls kj35 _ _ l1_0 a1_1 x60_3 t156 _ ?side1 ?side2 A41.out).mono ?_
                              (case side1 => exact U (Kd.C_below HR1_0.out HB.out))
                              (case side2 => exact HC1_0.out)
                              rintro e w46 ⟨v157, rfl, ho0, hb⟩
                              refine ⟨_, rfl, ?_⟩
                              have HO158 := Aside0.mk (Kd.R_lower ho0 (below_size BU)); replace BK144 := bB BK144 hb; replace HB := BS hb; (try clear hb); (try clear hb2); (try clear hk); (try clear hi); (try clear ho0)
                              refine hK.out _ _ ⟨(blk_cell BK144.out 0).trans rfl, (blk_cell BK144.out 1).trans rfl⟩ (fun hHeld => ?_)
                              clear hK K
                              refine norm_ (a' := ?_) ?_ ?_
                              rotate_left
                              · show Act.put _ (some 83) _ = _
                                simp only [Act.put, List.setIfInBounds_toArray, List.set_cons_zero, List.set_cons_succ, i64_w, i32_w]
                                rfl
                              refine one_ (i := 6) (N := some 86) #[true, true, true, true, true, true, true, false, true, false] rfl rfl (one_of HT_.out (by kernel_rfl)) (by decide) (fun K hK => ?_)
                              refine goes_ Try.func59 (by kernel_rfl) rfl #[.agg #[.slice A1_0 l1_0.length c1_0, .int .i64 a1_1], .int .i64 x64_4] (by rfl) rfl rfl (by (try simp only [List.map_toArray, List.map_cons, List.map_nil]); first | done | rfl | (simp only [List.length_drop, List.length_take]; rfl)) ?_
                              with_reducible refine (impl_column.calls kj35 _ _ l1_0 a1_1 x64_4 t159 _ ?side1 ?side2 A42.out).mono ?_
                              (case side1 => exact U (Kd.C_below HR1_0.out HB.out))
                              (case side2 => exact HC1_0.out)
                              rintro e w47 ⟨v160, rfl, ho0, hb⟩
                              refine ⟨_, rfl, ?_⟩
                              have HO161 := Aside0.mk (Kd.R_lower (Kd.R_new' ho0 (Kd.R_lt (U HO158.out))) (below_size BU)); replace HO158 := Aside0.mk (Kd.R_elder' (U HO158.out) (Kd.R_base ho0) hb); replace BK144 := bB BK144 hb; replace HB := BS hb; (try clear hb); (try clear hb2); (try clear hk); (try clear hi); (try clear ho0); obtain ⟨Ao48, co48, eo48⟩ := Kd.R_slice HO158.out
                              (first | subst eo48 | (injection eo48 with f1_ f2_ f3_; have f4_ := f1_.symm; have f5_ := f3_.symm; clear f1_ f2_ f3_; subst f4_; subst f5_))
                              obtain ⟨Ao49, co49, eo49⟩ := Kd.R_slice HO161.out
                              (first | subst eo49 | (injection eo49 with f1_ f2_ f3_; have f4_ := f1_.symm; have f5_ := f3_.symm; clear f1_ f2_ f3_; subst f4_; subst f5_))
                              refine hK.out _ _ ⟨(blk_cell BK144.out 0).trans rfl, (blk_cell BK144.out 1).trans rfl⟩ (fun hHeld => ?_)
                              clear hK K
                              refine norm_ (a' := ?_) ?_ ?_
                              rotate_left
                              · show Act.put _ (some 86) _ = _
                                simp only [Act.put, List.setIfInBounds_toArray, List.set_cons_zero, List.set_cons_succ, i64_w, i32_w]
                                rfl
                              refine one_ (i := 7) (N := some 87) #[true, true, true, true, true, true, true, true, true, false] rfl rfl (one_of HT_.out (by kernel_rfl)) (by decide) (fun K hK => ?_)
                              refine goes_ Try.func57 (by kernel_rfl) rfl #[.slice A0 l0.length c0, .slice Ao48 t156.length co48, .slice Ao49 t159.length co49] (by rfl) rfl rfl (by (try simp only [List.map_toArray, List.map_cons, List.map_nil]); first | done | rfl | (simp only [List.length_drop, List.length_take]; rfl)) ?_
                              with_reducible refine (impl_pair.calls kj35 _ _ l0 _ _ t156 _ _ t159 t162 _ ?side1 ?side2 ?side3 ?side4 ?side5 ?side6 A43.out).mono ?_
                              (case side1 => exact U (Kd.C_below HR0.out HB.out))
                              (case side2 => exact HC0.out)
                              (case side3 => exact U ((Kd.R_reads' HO158.out).2.2))
                              (case side4 => exact (Kd.R_reads' HO158.out).2.1)
                              (case side5 => exact U ((Kd.R_reads' HO161.out).2.2))
                              (case side6 => exact (Kd.R_reads' HO161.out).2.1)
                              rintro e w' ⟨rfl, ⟨nd, rfl⟩⟩
                              refine ⟨_, rfl, ?_⟩
                              refine hK.out _ _ ⟨(blk_cell BK144.out 0).trans rfl, (blk_cell BK144.out 1).trans rfl⟩ (fun hHeld => ?_)
                              clear hK K
                              refine norm_ (a' := ?_) ?_ ?_
                              rotate_left
                              · show Act.put _ (some 87) _ = _
                                simp only [Act.put, List.setIfInBounds_toArray, List.set_cons_zero, List.set_cons_succ, i64_w, i32_w]
                                rfl
                              refine pure_ (i := 9) (N := some 89) (v := ?_) (a' := ?_) #[true, true, true, true, true, true, true, true, true, true] rfl rfl (any_of HT_.out (by kernel_rfl)) (fun _ _ _ h => h) (Or.inl ⟨by rfl, ?_⟩) ?_ ?_
                              rotate_left
                              · intro w'
                                go_simp
                                with_reducible rfl
                              rotate_left
                              · simp only [Act.put, List.setIfInBounds_toArray, List.set_cons_zero, List.set_cons_succ, i64_w, i32_w]
                                rfl
                              refine done_ (done_of HT_.out (by kernel_rfl)) ?_
                              try go_wp2
                              go_roundg kj35
                              case measure => have := HJ2.out; have := HK2.out; have := HK3.out; have := HK4.out; have := HJ35.out; omega
                              case rel => exact ⟨(wrap64 (x64_4 + 1)), sR, H', ⟨by have := HJ2.out; have := HK2.out; have := HK3.out; have := HK4.out; have := HJ35.out; omega⟩, ⟨U BK144.out⟩, ⟨BU⟩⟩
                            rw [if_neg c44] at H; have c44b0 : (t162 == x11_35) = false := beq_eq_false_iff_ne.mpr c44; have c44b1 : (t162 != x11_35) = true := bne_iff_ne.mpr c44; obtain rfl := Option.some.inj H
                            try go_wp2
                            replace BK144 := Aside0.mk (blk_drew BK144.out); replace HB := Aside0.mk (below_drew1 HB.out)
                            refine start_ (n := 10) (S := fun w' => w'.cell? ⟨gb144, 0, none⟩ = some (.slice A1_0 l1_0.length c1_0) ∧ w'.cell? ⟨gb144, 1, none⟩ = some (.int .i64 a1_1)) (ds := []) #[false, false, false, false, false, false, false, false, false, false] (by kernel_rfl) rfl rfl ⟨(blk_cell BK144.out 0).trans rfl, (blk_cell BK144.out 1).trans rfl⟩ (fun hHeld => ?_); refine with_tabW impl_MoveValid.tab23 impl_MoveValid.bits23 (fun HT_ HW_ => ?_)
                            generalize wc.drew = w50 at BK144 HB hHeld ⊢
                            refine pure_ (i := 0) (N := some 80) (v := ?_) (a' := ?_) #[true, false, false, false, false, false, false, false, false, false] rfl rfl (any_of HT_.out (by kernel_rfl)) (fun _ _ _ h => h) (Or.inl ⟨by rfl, ?_⟩) ?_ ?_
                            rotate_left
                            · intro w'
                              go_simp
                              with_reducible rfl
                            rotate_left
                            · simp only [Act.put, List.setIfInBounds_toArray, List.set_cons_zero, List.set_cons_succ, i64_w, i32_w]
                              rfl
                            refine pure_ (i := 2) (N := some 82) (v := ?_) (a' := ?_) #[true, false, true, false, false, false, false, false, false, false] rfl rfl (any_of HT_.out (by kernel_rfl)) (fun _ _ _ h => h) (Or.inl ⟨by rfl, ?_⟩) ?_ ?_
                            rotate_left
                            · intro w'
                              go_simp
                              with_reducible rfl
                            rotate_left
                            · simp only [Act.put, List.setIfInBounds_toArray, List.set_cons_zero, List.set_cons_succ, i64_w, i32_w]
                              rfl
                            refine pure_ (i := 5) (N := some 85) (v := ?_) (a' := ?_) #[true, false, true, false, false, true, false, false, false, false] rfl rfl (any_of HT_.out (by kernel_rfl)) (fun _ _ _ h => h) (Or.inl ⟨by rfl, ?_⟩) ?_ ?_
                            rotate_left
                            · intro w'
                              go_simp
                              with_reducible rfl
                            rotate_left
                            · simp only [Act.put, List.setIfInBounds_toArray, List.set_cons_zero, List.set_cons_succ, i64_w, i32_w]
                              rfl
                            refine pure_ (i := 8) (N := some 88) (v := ?_) (a' := ?_) #[true, false, true, false, false, true, false, false, true, false] rfl rfl (any_of HT_.out (by kernel_rfl)) (fun _ _ _ h => h) (Or.inl ⟨by rfl, ?_⟩) ?_ ?_
                            rotate_left
                            · intro w'
                              go_simp
                              with_reducible rfl
                            rotate_left
                            · simp only [Act.put, List.setIfInBounds_toArray, List.set_cons_zero, List.set_cons_succ, i64_w, i32_w]
                              rfl
                            refine take_ (i := 1) (N := some 81) (v := ?_) (a' := ?_) #[true, true, true, false, false, true, false, false, true, false] rfl rfl (take_ofW HT_.out HW_.out (by kernel_rfl)) (fun _ _ _ h => h) (Or.inl ⟨by rfl, ?_⟩) hHeld ?_ ?_
                            rotate_left
                            · rintro w' ⟨s0, s1⟩
                              go_simp
                              with_reducible rfl
                            rotate_left
                            · simp only [Act.put, List.setIfInBounds_toArray, List.set_cons_zero, List.set_cons_succ, i64_w, i32_w]
                              rfl
                            refine take_ (i := 4) (N := some 84) (v := ?_) (a' := ?_) #[true, true, true, false, true, true, false, false, true, false] rfl rfl (take_ofW HT_.out HW_.out (by kernel_rfl)) (fun _ _ _ h => h) (Or.inl ⟨by rfl, ?_⟩) hHeld ?_ ?_
                            rotate_left
                            · rintro w' ⟨s0, s1⟩
                              go_simp
                              with_reducible rfl
                            rotate_left
                            · simp only [Act.put, List.setIfInBounds_toArray, List.set_cons_zero, List.set_cons_succ, i64_w, i32_w]
                              rfl
                            refine one_ (i := 3) (N := some 83) #[true, true, true, true, true, true, false, false, true, false] rfl rfl (one_of HT_.out (by kernel_rfl)) (by decide) (fun K hK => ?_)
                            refine goes_ Try.func59 (by kernel_rfl) rfl #[.agg #[.slice A1_0 l1_0.length c1_0, .int .i64 a1_1], .int .i64 x60_3] (by rfl) rfl rfl (by (try simp only [List.map_toArray, List.map_cons, List.map_nil]); first | done | rfl | (simp only [List.length_drop, List.length_take]; rfl)) ?_
                            with_reducible refine (impl_column.calls kj35 _ _ l1_0 a1_1 x60_3 t156 _ ?side1 ?side2 A41.out).mono ?_
                            (case side1 => exact U (Kd.C_below HR1_0.out HB.out))
                            (case side2 => exact HC1_0.out)
                            rintro e w51 ⟨v157, rfl, ho0, hb⟩
                            refine ⟨_, rfl, ?_⟩
                            have HO158 := Aside0.mk (Kd.R_lower ho0 (below_size BU)); replace BK144 := bB BK144 hb; replace HB := BS hb; (try clear hb); (try clear hb2); (try clear hk); (try clear hi); (try clear ho0)
                            refine hK.out _ _ ⟨(blk_cell BK144.out 0).trans rfl, (blk_cell BK144.out 1).trans rfl⟩ (fun hHeld => ?_)
                            clear hK K
                            refine norm_ (a' := ?_) ?_ ?_
                            rotate_left
                            · show Act.put _ (some 83) _ = _
                              simp only [Act.put, List.setIfInBounds_toArray, List.set_cons_zero, List.set_cons_succ, i64_w, i32_w]
                              rfl
                            refine one_ (i := 6) (N := some 86) #[true, true, true, true, true, true, true, false, true, false] rfl rfl (one_of HT_.out (by kernel_rfl)) (by decide) (fun K hK => ?_)
                            refine goes_ Try.func59 (by kernel_rfl) rfl #[.agg #[.slice A1_0 l1_0.length c1_0, .int .i64 a1_1], .int .i64 x64_4] (by rfl) rfl rfl (by (try simp only [List.map_toArray, List.map_cons, List.map_nil]); first | done | rfl | (simp only [List.length_drop, List.length_take]; rfl)) ?_
                            with_reducible refine (impl_column.calls kj35 _ _ l1_0 a1_1 x64_4 t159 _ ?side1 ?side2 A42.out).mono ?_
                            (case side1 => exact U (Kd.C_below HR1_0.out HB.out))
                            (case side2 => exact HC1_0.out)
                            rintro e w52 ⟨v160, rfl, ho0, hb⟩
                            refine ⟨_, rfl, ?_⟩
                            have HO161 := Aside0.mk (Kd.R_lower (Kd.R_new' ho0 (Kd.R_lt (U HO158.out))) (below_size BU)); replace HO158 := Aside0.mk (Kd.R_elder' (U HO158.out) (Kd.R_base ho0) hb); replace BK144 := bB BK144 hb; replace HB := BS hb; (try clear hb); (try clear hb2); (try clear hk); (try clear hi); (try clear ho0); obtain ⟨Ao53, co53, eo53⟩ := Kd.R_slice HO158.out
                            (first | subst eo53 | (injection eo53 with f1_ f2_ f3_; have f4_ := f1_.symm; have f5_ := f3_.symm; clear f1_ f2_ f3_; subst f4_; subst f5_))
                            obtain ⟨Ao54, co54, eo54⟩ := Kd.R_slice HO161.out
                            (first | subst eo54 | (injection eo54 with f1_ f2_ f3_; have f4_ := f1_.symm; have f5_ := f3_.symm; clear f1_ f2_ f3_; subst f4_; subst f5_))
                            refine hK.out _ _ ⟨(blk_cell BK144.out 0).trans rfl, (blk_cell BK144.out 1).trans rfl⟩ (fun hHeld => ?_)
                            clear hK K
                            refine norm_ (a' := ?_) ?_ ?_
                            rotate_left
                            · show Act.put _ (some 86) _ = _
                              simp only [Act.put, List.setIfInBounds_toArray, List.set_cons_zero, List.set_cons_succ, i64_w, i32_w]
                              rfl
                            refine one_ (i := 7) (N := some 87) #[true, true, true, true, true, true, true, true, true, false] rfl rfl (one_of HT_.out (by kernel_rfl)) (by decide) (fun K hK => ?_)
                            refine goes_ Try.func57 (by kernel_rfl) rfl #[.slice A0 l0.length c0, .slice Ao53 t156.length co53, .slice Ao54 t159.length co54] (by rfl) rfl rfl (by (try simp only [List.map_toArray, List.map_cons, List.map_nil]); first | done | rfl | (simp only [List.length_drop, List.length_take]; rfl)) ?_
                            with_reducible refine (impl_pair.calls kj35 _ _ l0 _ _ t156 _ _ t159 t162 _ ?side1 ?side2 ?side3 ?side4 ?side5 ?side6 A43.out).mono ?_
                            (case side1 => exact U (Kd.C_below HR0.out HB.out))
                            (case side2 => exact HC0.out)
                            (case side3 => exact U ((Kd.R_reads' HO158.out).2.2))
                            (case side4 => exact (Kd.R_reads' HO158.out).2.1)
                            (case side5 => exact U ((Kd.R_reads' HO161.out).2.2))
                            (case side6 => exact (Kd.R_reads' HO161.out).2.1)
                            rintro e w' ⟨rfl, ⟨nd, rfl⟩⟩
                            refine ⟨_, rfl, ?_⟩
                            refine hK.out _ _ ⟨(blk_cell BK144.out 0).trans rfl, (blk_cell BK144.out 1).trans rfl⟩ (fun hHeld => ?_)
                            clear hK K
                            refine norm_ (a' := ?_) ?_ ?_
                            rotate_left
                            · show Act.put _ (some 87) _ = _
                              simp only [Act.put, List.setIfInBounds_toArray, List.set_cons_zero, List.set_cons_succ, i64_w, i32_w]
                              rfl
                            refine pure_ (i := 9) (N := some 89) (v := ?_) (a' := ?_) #[true, true, true, true, true, true, true, true, true, true] rfl rfl (any_of HT_.out (by kernel_rfl)) (fun _ _ _ h => h) (Or.inl ⟨by rfl, ?_⟩) ?_ ?_
                            rotate_left
                            · intro w'
                              go_simp
                              with_reducible rfl
                            rotate_left
                            · simp only [Act.put, List.setIfInBounds_toArray, List.set_cons_zero, List.set_cons_succ, i64_w, i32_w]
                              rfl
                            refine done_ (done_of HT_.out (by kernel_rfl)) ?_
                            try go_wp2
                            go_ret
                            exact ⟨eR, BU⟩
                      rw [if_neg c35] at H; have c35b0 : decide (x64_4 < (l0.length : Int)) = false := decide_eq_false c35; clear c35; have H' := Aside0.mk H; clear H
                      go_wp2
                      go_roundg k4
                      case measure => have := HJ2.out; have := HK2.out; have := HK3.out; have := HK4.out; omega
                      case rel => exact ⟨(wrap64 (x60_3 + 1)), sR, H', ⟨by have := HJ2.out; have := HK2.out; have := HK3.out; have := HK4.out; omega⟩, ⟨U BK144.out⟩, ⟨BU⟩⟩
                rw [if_neg c34] at H; have c34b0 : decide (x60_3 < (l0.length : Int)) = false := decide_eq_false c34; clear c34; obtain rfl := Option.some.inj H
                go_wp2
                go_ret
                exact ⟨eR, BU⟩
          rw [if_neg c31] at H; have c31b0 : (t154 == 1) = false := beq_eq_false_iff_ne.mpr c31; have c31b1 : (t154 != 1) = true := bne_iff_ne.mpr c31; obtain rfl := Option.some.inj H; obtain ⟨Ao55, co55, eo55⟩ := Kd.R_slice HO_6.out; subst eo55
          go_wp2_with (first | ((with_reducible refine gate_callee (f := 63) rfl ?_); refine goesK (some 57) Try.func63 #[.slice Ao55 x6_2.length co55] ?_; (with_reducible refine (impl_gcd.calls k2 _ _ x6_2 t154 _ ?side1 ?side2 A30.out).mono ?_); (case side1 => exact U ((Kd.R_reads' HO_6.out).2.2)); (case side2 => exact (Kd.R_reads' HO_6.out).2.1); rintro e w56 ⟨rfl, hb⟩; refine ⟨_, rfl, ?_⟩; replace HO_6 := Aside0.mk (Kd.R_below (U HO_6.out) hb); replace BK144 := bB BK144 hb; replace HB := BS hb; (try clear hb)))
          go_ret
          exact ⟨eR, BU⟩

end Go.Proofs.Ytnbeeogmaamgdaa.PFnSplitMove
