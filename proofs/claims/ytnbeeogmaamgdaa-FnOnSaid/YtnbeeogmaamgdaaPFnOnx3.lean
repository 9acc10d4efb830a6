-- Written by a program of this session (wip/print2.py): the functions that the law reaches, plain, and the walks.
import Derived.Test.YtnbeeogmaamgdaaPFnOnx0
import Derived.Test.YtnbeeogmaamgdaaPFnOnx1
namespace Go.Proofs.Ytnbeeogmaamgdaa.PFnOn
open Go.RowKit Go.Proofs.YtnbeeogmaamgdaaW.PrintWords Go.Proofs.YtnbeeogmaamgdaaW.PrintLast Go.Proofs.YtnbeeogmaamgdaaW.PrintMore
attribute [local go_sem] max2_int min2_int max_two min_two max_three min_three max_four min_four   -- for this text's walks alone
set_option linter.unusedVariables false
set_option linter.unusedSimpArgs false

/-! ### spec_l4Vector: function 67 -/
def spec_l4Vector.l0 : Nat → List Int → List Int → Int → Int → Option (Bool)
  | 0, _, _, _, _ => none
  | k + 1, x0, x1, x2, x7 => if x7 < (x1.length : Int) then (if 0 ≤ x7 then ((spec_l6In.f (rd x1 x7) (wrap64 (-x2)) x2).bind fun t148 => (if t148 = true then (spec_l4Vector.l0 k x0 x1 x2 (wrap64 (x7 + 1))) else (some false))) else (none)) else ((spec_FormValid.f k x0).bind fun t149 => (if t149 = true then (some ((x1.length : Int) == (x0.length : Int))) else (some false)))
def spec_l4Vector.f (k : Nat) (l0 : List Int) (l1 : List Int) (a2 : Int) : Option (Bool) := spec_l4Vector.l0 k l0 l1 a2 0
theorem spec_l4Vector.mono_l : ∀ k, (∀ y0 y1 y2 y3, LeO (spec_l4Vector.l0 k y0 y1 y2 y3) (spec_l4Vector.l0 (k + 1) y0 y1 y2 y3))
  | 0 => fun _ _ _ _ r h => by simp [spec_l4Vector.l0] at h
  | k + 1 => by
    have ih0 := spec_l4Vector.mono_l k
    · intro y0 y1 y2 y3
      unfold spec_l4Vector.l0
      repeat' first
      | (with_reducible exact ih0 _ _ _ _)
      | (with_reducible exact spec_FormValid.mono _ _)
      | (with_reducible exact LeO.refl _)
      | (with_reducible exact LeO.none _)
      | (with_reducible refine LeO.ite ?_ ?_)
      | (with_reducible refine LeO.bind ?_ (fun _ => ?_))
      | exact ih0 _ _ _ _
      | exact spec_FormValid.mono _ _
      | exact LeO.none _
      | refine LeO.ite ?_ ?_
      | refine LeO.bind ?_ (fun _ => ?_)
theorem spec_l4Vector.mono : ∀ a0 a1 a2 k, LeO (spec_l4Vector.f k a0 a1 a2) (spec_l4Vector.f (k + 1) a0 a1 a2) := by
  intro a0 a1 a2 k
  have ih0 := spec_l4Vector.mono_l k
  unfold spec_l4Vector.f
  repeat' first
      | (with_reducible exact ih0 _ _ _ _)
      | (with_reducible exact spec_FormValid.mono _ _)
      | (with_reducible exact LeO.refl _)
      | (with_reducible exact LeO.none _)
      | (with_reducible refine LeO.ite ?_ ?_)
      | (with_reducible refine LeO.bind ?_ (fun _ => ?_))
      | exact ih0 _ _ _ _
      | exact spec_FormValid.mono _ _
      | exact LeO.none _
      | refine LeO.ite ?_ ?_
      | refine LeO.bind ?_ (fun _ => ?_)
set_option maxHeartbeats 8000000 in
set_option maxRecDepth 100000 in
theorem spec_l4Vector.calls (k : Nat) (A0 : Option Addr) (c0 : Nat) (l0 : List Int) (A1 : Option Addr) (c1 : Nat) (l1 : List Int) (a2 : Int) (r : Bool) (w : World) (hr0 : Kd.C (Kd.int .i64) w A0 l0.length l0) (hc0 : l0.length ≤ c0) (hr1 : Kd.C (Kd.int .i64) w A1 l1.length l1) (hc1 : l1.length ≤ c1) (h : spec_l4Vector.f k l0 l1 a2 = some r) :
    Calls Try.prog 67 #[.slice A0 l0.length c0, .slice A1 l1.length c1, .int .i64 a2] w fun e w' => e = .returned (.bool r) ∧ Drawn0 w w' := by
  have HR0 := Aside0.mk hr0; have HC0 := Aside0.mk hc0; clear hr0 hc0; have HR1 := Aside0.mk hr1; have HC1 := Aside0.mk hc1; clear hr1 hc1; unfold spec_l4Vector.f at h; have H := h; clear h; have H' := Aside0.mk H; clear H; go_enter Try.func67, Try.ntmps67
  go_wp2
  go_loopg [7] k (fun kq v7 w' => ∃ (x7_1 : Int), v7 = .int .i64 x7_1 ∧ Aside0 (spec_l4Vector.l0 kq l0 l1 a2 x7_1 = some r) ∧ Aside0 (kq ≤ k) ∧ Drawn0 w w')
  case atStart => exact ⟨(0), sR, H', ⟨Nat.le_refl _⟩, by repeat (first | exact Drawn0.refl _ | apply Drawn0.step)⟩
  case round =>
    clear H'; obtain ⟨x7_1, rfl, HA, HK1, ⟨m1, rfl⟩⟩ := hrel; cases gk with
    | zero => exact absurd HA.out (by simp [spec_l4Vector.l0])
    | succ k1 =>
      have H := HA.out; clear HA; simp only [spec_l4Vector.l0] at H
      by_cases c4 : x7_1 < (l1.length : Int)
      · rw [if_pos c4] at H
        have c4b0 : decide (x7_1 < (l1.length : Int)) = true := decide_eq_true c4; clear c4; obtain ⟨c5, H⟩ := ifN H; have c5b0 : decide (0 ≤ x7_1) = true := decide_eq_true c5; clear c5; obtain ⟨t148, A6, H⟩ := bnd H
        by_cases c7 : t148 = true
        · subst c7
          replace H := ifT H; have H' := Aside0.mk H; clear H; have p147 : 0 ≤ (x7_1 : Int) := oD; have q147 : x7_1 < (l1.length : Int) := oD; obtain ⟨ad147, e147, hx147_0⟩ := Kd.at_int HR1.out x7_1 p147 q147; cases e147; replace p147 := eq_true p147; replace q147 := eq_true q147
          go_wp2_with (first | ((with_reducible refine gate_callee (f := 86) rfl ?_); refine goesK (some 21) Try.func86 #[.int .i64 (rd l1 x7_1), .int .i64 (wrap64 (-a2)), .int .i64 a2] ?_; (with_reducible refine (spec_l6In.calls (rd l1 x7_1) (wrap64 (-a2)) a2 true _ A6.out).mono ?_); rintro e w' ⟨rfl, ⟨nd, rfl⟩⟩; refine ⟨_, rfl, ?_⟩))
          go_roundg k1
          case measure => have := HK1.out; omega
          case rel => exact ⟨(wrap64 (x7_1 + 1)), sR, H', ⟨by have := HK1.out; omega⟩, by repeat (first | exact Drawn0.refl _ | apply Drawn0.step)⟩
        replace c7 := Bool.eq_false_iff.mpr c7; subst c7; replace H := ifF H; obtain rfl := Option.some.inj H; have p147 : 0 ≤ (x7_1 : Int) := oD; have q147 : x7_1 < (l1.length : Int) := oD; obtain ⟨ad147, e147, hx147_0⟩ := Kd.at_int HR1.out x7_1 p147 q147; cases e147; replace p147 := eq_true p147; replace q147 := eq_true q147
        go_wp2_with (first | ((with_reducible refine gate_callee (f := 86) rfl ?_); refine goesK (some 21) Try.func86 #[.int .i64 (rd l1 x7_1), .int .i64 (wrap64 (-a2)), .int .i64 a2] ?_; (with_reducible refine (spec_l6In.calls (rd l1 x7_1) (wrap64 (-a2)) a2 false _ A6.out).mono ?_); rintro e w' ⟨rfl, ⟨nd, rfl⟩⟩; refine ⟨_, rfl, ?_⟩))
        go_ret
        exact ⟨by first | rfl | (simp; done) | (simp [*]; done), by repeat (first | exact Drawn0.refl _ | apply Drawn0.step)⟩
      rw [if_neg c4] at H; have c4b0 : decide (x7_1 < (l1.length : Int)) = false := decide_eq_false c4; clear c4; obtain ⟨t149, A8, H⟩ := bnd H
      by_cases c9 : t149 = true
      · subst c9
        replace H := ifT H; obtain rfl := Option.some.inj H
        go_wp2_with (first | ((with_reducible refine gate_callee (f := 85) rfl ?_); refine goesK (some 24) Try.func85 #[.slice A0 l0.length c0] ?_; (with_reducible refine (spec_FormValid.calls k1 _ _ l0 true _ ?side1 ?side2 A8.out).mono ?_); (case side1 => exact U HR0.out); (case side2 => exact HC0.out); rintro e w' ⟨rfl, ⟨nd, rfl⟩⟩; refine ⟨_, rfl, ?_⟩))
        go_ret
        exact ⟨by first | rfl | (simp; done) | (simp [*]; done), by repeat (first | exact Drawn0.refl _ | apply Drawn0.step)⟩
      replace c9 := Bool.eq_false_iff.mpr c9; subst c9; replace H := ifF H; obtain rfl := Option.some.inj H
      go_wp2_with (first | ((with_reducible refine gate_callee (f := 85) rfl ?_); refine goesK (some 24) Try.func85 #[.slice A0 l0.length c0] ?_; (with_reducible refine (spec_FormValid.calls k1 _ _ l0 false _ ?side1 ?side2 A8.out).mono ?_); (case side1 => exact U HR0.out); (case side2 => exact HC0.out); rintro e w' ⟨rfl, ⟨nd, rfl⟩⟩; refine ⟨_, rfl, ?_⟩))
      go_ret
      exact ⟨by first | rfl | (simp; done) | (simp [*]; done), by repeat (first | exact Drawn0.refl _ | apply Drawn0.step)⟩

/-! ### spec_l7Low: function 68 -/
mutual
def spec_l7Low.l0 : Nat → List (List Int) → Int → Int → Int → Option ((List (List Int)) × Int)
  | 0, _, _, _, _ => none
  | k + 1, x0, x1, x5, x6 => if x6 < (x0.length : Int) then (spec_l7Low.l1 k x0 x1 x5 x6 0) else (if x1 < 0 then (spec_l7Low.j2 k x0 x1 (wrap64 (-x5))) else (spec_l7Low.j2 k x0 x1 x5))
def spec_l7Low.l1 : Nat → List (List Int) → Int → Int → Int → Int → Option ((List (List Int)) × Int)
  | 0, _, _, _, _, _ => none
  | k + 1, x0, x1, x5, x6, x7 => if 0 ≤ x6 then (if x6 < (x0.length : Int) then (if x7 < ((rd_L2 x0 x6).length : Int) then (if 0 ≤ x7 then ((spec_l1Gcd.f k x5 (rd (rd_L2 x0 x6) x7)).bind fun t154 => (spec_l7Low.l1 k x0 x1 t154 x6 (wrap64 (x7 + 1)))) else (none)) else (spec_l7Low.l0 k x0 x1 x5 (wrap64 (x6 + 1)))) else (none)) else (none)
def spec_l7Low.j2 : Nat → List (List Int) → Int → Int → Option ((List (List Int)) × Int)
  | 0, _, _, _ => none
  | k + 1, x0, x1, x5 => if x5 = 0 then (none) else (spec_l7Low.l2 k x0 x5 0 (([] : List (List Int))) (wrap64 (Int.tdiv x1 x5)))
def spec_l7Low.l2 : Nat → List (List Int) → Int → Int → List (List Int) → Int → Option ((List (List Int)) × Int)
  | 0, _, _, _, _, _ => none
  | k + 1, x0, x5, x9, x159000, x159001 => if x9 < (x0.length : Int) then (spec_l7Low.l3 k x0 x5 x9 (([] : List Int)) 0 x159000 x159001) else (some (x159000, x159001))
def spec_l7Low.l3 : Nat → List (List Int) → Int → Int → List Int → Int → List (List Int) → Int → Option ((List (List Int)) × Int)
  | 0, _, _, _, _, _, _, _ => none
  | k + 1, x0, x5, x9, x10, x11, x159000, x159001 => if 0 ≤ x9 then (if x9 < (x0.length : Int) then (if x11 < ((rd_L2 x0 x9).length : Int) then (if 0 ≤ x11 then (if x5 = 0 then (none) else (if x10.length < 17592186044416 then (spec_l7Low.l3 k x0 x5 x9 (x10 ++ [wrap64 (Int.tdiv (rd (rd_L2 x0 x9) x11) x5)]) (wrap64 (x11 + 1)) x159000 x159001) else (none))) else (none)) else (if x159000.length < 5864062014805 then (spec_l7Low.l2 k x0 x5 (wrap64 (x9 + 1)) (x159000 ++ [x10]) x159001) else (none))) else (none)) else (none)
end
def spec_l7Low.f (k : Nat) (l0 : List (List Int)) (a1 : Int) : Option ((List (List Int)) × Int) := spec_l7Low.l0 k l0 a1 a1 0
theorem spec_l7Low.mono_l : ∀ k, (∀ y0 y1 y2 y3, LeO (spec_l7Low.l0 k y0 y1 y2 y3) (spec_l7Low.l0 (k + 1) y0 y1 y2 y3)) ∧ (∀ y0 y1 y2 y3 y4, LeO (spec_l7Low.l1 k y0 y1 y2 y3 y4) (spec_l7Low.l1 (k + 1) y0 y1 y2 y3 y4)) ∧ (∀ y0 y1 y2, LeO (spec_l7Low.j2 k y0 y1 y2) (spec_l7Low.j2 (k + 1) y0 y1 y2)) ∧ (∀ y0 y1 y2 y3 y4, LeO (spec_l7Low.l2 k y0 y1 y2 y3 y4) (spec_l7Low.l2 (k + 1) y0 y1 y2 y3 y4)) ∧ (∀ y0 y1 y2 y3 y4 y5 y6, LeO (spec_l7Low.l3 k y0 y1 y2 y3 y4 y5 y6) (spec_l7Low.l3 (k + 1) y0 y1 y2 y3 y4 y5 y6))
  | 0 => ⟨fun _ _ _ _ r h => by simp [spec_l7Low.l0] at h, fun _ _ _ _ _ r h => by simp [spec_l7Low.l1] at h, fun _ _ _ r h => by simp [spec_l7Low.j2] at h, fun _ _ _ _ _ r h => by simp [spec_l7Low.l2] at h, fun _ _ _ _ _ _ _ r h => by simp [spec_l7Low.l3] at h⟩
  | k + 1 => by
    obtain ⟨ih0, ih1, ih2, ih3, ih4⟩ := spec_l7Low.mono_l k
    refine ⟨?_, ?_, ?_, ?_, ?_⟩ <;> intros <;> (first | unfold spec_l7Low.l0 | unfold spec_l7Low.l1 | unfold spec_l7Low.j2 | unfold spec_l7Low.l2 | unfold spec_l7Low.l3) <;> (repeat' first
      | (with_reducible exact ih0 _ _ _ _)
      | (with_reducible exact ih1 _ _ _ _ _)
      | (with_reducible exact ih2 _ _ _)
      | (with_reducible exact ih3 _ _ _ _ _)
      | (with_reducible exact ih4 _ _ _ _ _ _ _)
      | (with_reducible exact spec_l1Gcd.mono _ _ _)
      | (with_reducible exact LeO.refl _)
      | (with_reducible exact LeO.none _)
      | (with_reducible refine LeO.ite ?_ ?_)
      | (with_reducible refine LeO.bind ?_ (fun _ => ?_))
      | exact ih0 _ _ _ _
      | exact ih1 _ _ _ _ _
      | exact ih2 _ _ _
      | exact ih3 _ _ _ _ _
      | exact ih4 _ _ _ _ _ _ _
      | exact spec_l1Gcd.mono _ _ _
      | exact LeO.none _
      | refine LeO.ite ?_ ?_
      | refine LeO.bind ?_ (fun _ => ?_))
theorem spec_l7Low.mono : ∀ a0 a1 k, LeO (spec_l7Low.f k a0 a1) (spec_l7Low.f (k + 1) a0 a1) := by
  intro a0 a1 k
  obtain ⟨ih0, ih1, ih2, ih3, ih4⟩ := spec_l7Low.mono_l k
  unfold spec_l7Low.f
  repeat' first
      | (with_reducible exact ih0 _ _ _ _)
      | (with_reducible exact ih1 _ _ _ _ _)
      | (with_reducible exact ih2 _ _ _)
      | (with_reducible exact ih3 _ _ _ _ _)
      | (with_reducible exact ih4 _ _ _ _ _ _ _)
      | (with_reducible exact spec_l1Gcd.mono _ _ _)
      | (with_reducible exact LeO.refl _)
      | (with_reducible exact LeO.none _)
      | (with_reducible refine LeO.ite ?_ ?_)
      | (with_reducible refine LeO.bind ?_ (fun _ => ?_))
      | exact ih0 _ _ _ _
      | exact ih1 _ _ _ _ _
      | exact ih2 _ _ _
      | exact ih3 _ _ _ _ _
      | exact ih4 _ _ _ _ _ _ _
      | exact spec_l1Gcd.mono _ _ _
      | exact LeO.none _
      | refine LeO.ite ?_ ?_
      | refine LeO.bind ?_ (fun _ => ?_)
set_option maxHeartbeats 8000000 in
set_option maxRecDepth 100000 in
theorem spec_l7Low.calls (k : Nat) (A0 : Option Addr) (c0 : Nat) (l0 : List (List Int)) (a1 : Int) (r1 : List (List Int)) (r2 : Int) (w : World) (hr0 : Kd.C (Kd.slice 3 (Kd.int .i64)) w A0 l0.length l0) (hc0 : l0.length ≤ c0) (h : spec_l7Low.f k l0 a1 = some (r1, r2)) :
    Calls Try.prog 68 #[.slice A0 l0.length c0, .int .i64 a1] w fun e w' => ∃ v0_ : Value, e = .returned (.agg #[v0_, .int .i64 r2]) ∧ Kd.S (Kd.slice 3 (Kd.int .i64)) 23 w' w.heap.size (fun _ => True) v0_ r1 ∧ Below w.heap.size w w' := by
  have hu27 := Try.underlying27; have HR0 := Aside0.mk hr0; have HC0 := Aside0.mk hc0; clear hr0 hc0; have HB := Aside0.mk (Below.refl w.heap.size w); unfold spec_l7Low.f at h; have H := h; clear h; have H' := Aside0.mk H; clear H; go_enter Try.func68, Try.ntmps68
  go_wp2_with (first | ((with_reducible refine gate_dst (N := 4) rfl ?_); refine boxE (N := 4) (cs := #[.slice none 0 0, .int .i64 0]) (t := 27) ?_; intro gb150 hg w3 hbox hb; have BK150 := Aside0.mk (hbox); have GW150 := GS w hg; have GE150 := GS w hg; replace HB := BS hb; clear hb hbox hg))
  go_loopg [5, 6] k (fun kq v5 v6 w' => ∃ (x5_1 : Int) (x6_1 : Int), v5 = .int .i64 x5_1 ∧ v6 = .int .i64 x6_1 ∧ Aside0 (spec_l7Low.l0 kq l0 a1 x5_1 x6_1 = some (r1, r2)) ∧ Aside0 (kq ≤ k) ∧ Aside0 (w'.heap[gb150]? = some (.cells #[(.slice none 0 0), .int .i64 0] 27 (0, 0))) ∧ Aside0 (Below w.heap.size w w'))
  case atStart => exact ⟨(a1), (0), sR, sR, H', ⟨Nat.le_refl _⟩, ⟨U BK150.out⟩, ⟨BU⟩⟩
  case round =>
    clear H'; obtain ⟨x5_1, x6_1, rfl, rfl, HA, HK1, BK150, HB⟩ := hrel; cases gk with
    | zero => exact absurd HA.out (by simp [spec_l7Low.l0])
    | succ k1 =>
      have H := HA.out; clear HA; simp only [spec_l7Low.l0] at H
      by_cases c4 : x6_1 < (l0.length : Int)
      · rw [if_pos c4] at H
        have c4b0 : decide (x6_1 < (l0.length : Int)) = true := decide_eq_true c4; clear c4; have H' := Aside0.mk H; clear H
        go_wp2
        go_loopg [5, 7] k1 (fun kq v5 v7 w' => ∃ (x5_2 : Int) (x7_2 : Int), v5 = .int .i64 x5_2 ∧ v7 = .int .i64 x7_2 ∧ Aside0 (spec_l7Low.l1 kq l0 a1 x5_2 x6_1 x7_2 = some (r1, r2)) ∧ Aside0 (kq ≤ k1) ∧ Aside0 (w'.heap[gb150]? = some (.cells #[(.slice none 0 0), .int .i64 0] 27 (0, 0))) ∧ Aside0 (Below w.heap.size w w'))
        case atStart => exact ⟨(x5_1), (0), sR, sR, H', ⟨Nat.le_refl _⟩, ⟨U BK150.out⟩, ⟨BU⟩⟩
        case round =>
          clear H'; (try clear c4); (try clear c4b0); obtain ⟨x5_2, x7_2, rfl, rfl, HA, HK2, BK150, HB⟩ := hrel; cases gk with
          | zero => exact absurd HA.out (by simp [spec_l7Low.l1])
          | succ k2 =>
            have H := HA.out; clear HA; simp only [spec_l7Low.l1] at H; obtain ⟨c5, H⟩ := ifN H; have c5b0 : decide (0 ≤ x6_1) = true := decide_eq_true c5; clear c5; obtain ⟨c6, H⟩ := ifN H; have c6b0 : decide (x6_1 < (l0.length : Int)) = true := decide_eq_true c6; clear c6
            by_cases c7 : x7_2 < ((rd_L2 l0 x6_1).length : Int)
            · rw [if_pos c7] at H
              have c7b0 : decide (x7_2 < ((rd_L2 l0 x6_1).length : Int)) = true := decide_eq_true c7; clear c7; obtain ⟨c8, H⟩ := ifN H; have c8b0 : decide (0 ≤ x7_2) = true := decide_eq_true c8; clear c8; obtain ⟨t154, A9, H⟩ := bnd H; have H' := Aside0.mk H; clear H; have p151 : 0 ≤ (x6_1 : Int) := oD; have q151 : x6_1 < (l0.length : Int) := oD; obtain ⟨ad151, A151_0, c151_0, e151, hx151_0, hl151_0, hi151_0⟩ := at_L2 HR0.out x6_1 p151 q151; cases e151; replace hx151_0 := (HB.out.cell (World.block_lt_of_cell? w _ hx151_0)).trans hx151_0; have HR151_0 := Aside0.mk hi151_0; have HC151_0 := Aside0.mk hl151_0; clear hi151_0 hl151_0; replace p151 := eq_true p151; replace q151 := eq_true q151; have p152 : 0 ≤ (x6_1 : Int) := oD; have q152 : x6_1 < (l0.length : Int) := oD; obtain ⟨ad152, A152_0, c152_0, e152, hx152_0, hl152_0, hi152_0⟩ := at_L2 HR0.out x6_1 p152 q152; obtain rfl : ad151 = ad152 := (by injection e152); replace hx152_0 := (HB.out.cell (World.block_lt_of_cell? w _ hx152_0)).trans hx152_0; have HR152_0 := Aside0.mk hi152_0; have HC152_0 := Aside0.mk hl152_0; clear hi152_0 hl152_0; replace p152 := eq_true p152; replace q152 := eq_true q152; have ea_ := Option.some.inj (hx151_0.symm.trans hx152_0)
              injection ea_ with ea_ en_ ec_
              subst ea_; subst ec_; clear en_; have p153 : 0 ≤ (x7_2 : Int) := oD; have q153 : x7_2 < ((rd_L2 l0 x6_1).length : Int) := oD; obtain ⟨ad153, e153, hx153_0⟩ := Kd.at_int HR152_0.out x7_2 p153 q153; cases e153; replace hx153_0 := (HB.out.cell (World.block_lt_of_cell? w _ hx153_0)).trans hx153_0; replace p153 := eq_true p153; replace q153 := eq_true q153
              go_wp2_with (first | ((with_reducible refine gate_callee (f := 87) rfl ?_); refine goesK (some 36) Try.func87 #[.int .i64 x5_2, .int .i64 (rd (rd_L2 l0 x6_1) x7_2)] ?_; (with_reducible refine (spec_l1Gcd.calls k2 x5_2 (rd (rd_L2 l0 x6_1) x7_2) t154 _ A9.out).mono ?_); rintro e w10 ⟨rfl, hb⟩; refine ⟨_, rfl, ?_⟩; replace BK150 := bB BK150 hb; replace HB := BS hb; (try clear hb)))
              go_roundg k2
              case measure => have := HK1.out; have := HK2.out; omega
              case rel => exact ⟨(t154), (wrap64 (x7_2 + 1)), sR, sR, H', ⟨by have := HK1.out; have := HK2.out; omega⟩, ⟨U BK150.out⟩, ⟨BU⟩⟩
            rw [if_neg c7] at H; have c7b0 : decide (x7_2 < ((rd_L2 l0 x6_1).length : Int)) = false := decide_eq_false c7; clear c7; have H' := Aside0.mk H; clear H; have p151 : 0 ≤ (x6_1 : Int) := oD; have q151 : x6_1 < (l0.length : Int) := oD; obtain ⟨ad151, A151_0, c151_0, e151, hx151_0, hl151_0, hi151_0⟩ := at_L2 HR0.out x6_1 p151 q151; cases e151; replace hx151_0 := (HB.out.cell (World.block_lt_of_cell? w _ hx151_0)).trans hx151_0; have HR151_0 := Aside0.mk hi151_0; have HC151_0 := Aside0.mk hl151_0; clear hi151_0 hl151_0; replace p151 := eq_true p151; replace q151 := eq_true q151
            go_wp2
            go_roundg k2
            case measure => have := HK1.out; have := HK2.out; omega
            case rel => exact ⟨(x5_2), (wrap64 (x6_1 + 1)), sR, sR, H', ⟨by have := HK1.out; have := HK2.out; omega⟩, ⟨U BK150.out⟩, ⟨BU⟩⟩
      rw [if_neg c4] at H; have c4b0 : decide (x6_1 < (l0.length : Int)) = false := decide_eq_false c4; clear c4; have HC11 := Aside0.mk H; clear H
      go_upto_if 38 with (fail)
      go_cut [5] (fun v5 wc => ∃ (kq : Nat) (x5_10 : Int), v5 = .int .i64 x5_10 ∧ Aside0 (spec_l7Low.j2 kq l0 a1 x5_10 = some (r1, r2)) ∧ Aside0 (kq ≤ k1) ∧ Aside0 (wc.heap[gb150]? = some (.cells #[(.slice none 0 0), .int .i64 0] 27 (0, 0))) ∧ Aside0 (Below w.heap.size w wc))
      case first =>
        have H := HC11.out; clear HC11
        by_cases c12 : a1 < 0
        · rw [if_pos c12] at H
          have c12b0 : decide (a1 < 0) = true := decide_eq_true c12; clear c12
          (first | rw [c12b0] | (simp only [i64_w, i32_w]; rw [c12b0]) | skip)
          have H' := Aside0.mk H; clear H
          go_wp2
          go_meet
          case rel => exact ⟨_, (wrap64 (-x5_1)), sR, H', ⟨by have := HK1.out; first | omega | exact Nat.le_refl _⟩, ⟨U BK150.out⟩, ⟨BU⟩⟩
        rw [if_neg c12] at H; have c12b0 : decide (a1 < 0) = false := decide_eq_false c12; clear c12
        (first | rw [c12b0] | (simp only [i64_w, i32_w]; rw [c12b0]) | skip)
        have H' := Aside0.mk H; clear H
        go_wp2
        go_meet
        case rel => exact ⟨_, (x5_1), sR, H', ⟨by have := HK1.out; first | omega | exact Nat.le_refl _⟩, ⟨U BK150.out⟩, ⟨BU⟩⟩
      case rest =>
        clear HC11; (try clear c4); (try clear c4b0); obtain ⟨kq, x5_10, rfl, HA, HJ10, BK150, HB⟩ := hcut; cases kq with
        | zero => exact absurd HA.out (by simp [spec_l7Low.j2])
        | succ kj10 =>
          have H := HA.out; clear HA; simp only [spec_l7Low.j2] at H; obtain ⟨y155, hy155⟩ : ∃ y_ : List (List Int), y_ = (([] : List (List Int))) := ⟨_, rfl⟩; replace H : (if x5_10 = 0 then (none) else (spec_l7Low.l2 kj10 l0 x5_10 0 y155 (wrap64 (Int.tdiv a1 x5_10)))) = some (r1, r2) := rH hy155 H; have Ny155 := Aside0.mk hy155; clear hy155; obtain ⟨c13, H⟩ := ifM H; have c13b0 : (x5_10 == 0) = false := beq_eq_false_iff_ne.mpr c13; have c13b1 : (x5_10 != 0) = true := bne_iff_ne.mpr c13; have H' := Aside0.mk H; clear H
          go_wp2_with (first | ((with_reducible refine gate_dst (N := 41) rfl ?_); refine Kd.S_lit (Kd.slice 3 (Kd.int .i64)) _ 23 ?hg (N := 41) ?hd (xs := ([] : List (List Int))) (inner := []) (ok := fun _ => True) (okp := fun _ => True) ?hr ?hp (fun _ hk => hk) trivial (Below.refl _ _) (Nat.le_refl _) (by simp) ?_; (case hd => rfl); (case hg => rfl); (case hr => first | (go_simp; done) | (go_simp; rfl)); (case hp => exact (Reps.none _ _)); intro v156 w14 ho15 hb hg_ hnew_; clear hg_ hnew_; (first | rw [← Ny155.out] at ho15 | (simp only [Int.reduceToNat] at ho15; rw [← Ny155.out] at ho15)); have HO157 := Aside0.mk (Kd.S_lower ho15 (below_size BU)); replace BK150 := bB BK150 hb; replace HB := BS hb; clear hb ho15; obtain ⟨Ao16, co16, eo16⟩ := Kd.S_slice HO157.out; subst eo16) | ((with_reducible refine gate_dst (N := 8) rfl ?_); refine boxE (N := 8) (cs := #[.slice none 0 0, .int .i64 0]) (t := 27) ?_; intro gb158 hg w17 hbox hb; replace HO157 := Aside0.mk (Kd.S_below (U HO157.out) hb); have BK158 := Aside0.mk (hbox); have GW158 := GS w hg; have GE158 := GS w hg; replace HB := BS hb; have NB150_158 := NL BK150 hg; have NB158_150 := NG BK150 hg; replace BK150 := bB BK150 hb; clear hb hbox hg; have hnb18 := NB158_150.out; have hnc18 := NB150_158.out; obtain ⟨hcz19_0, hcz19_1, hfz19_0, hfz19_1⟩ := bcf BK158))
          go_loopg [9] kj10 (fun kq v9 w' => ∃ (x9_3 : Int) (x159000_3 : List (List Int)) (u159000 : Value), v9 = .int .i64 x9_3 ∧ Aside0 (spec_l7Low.l2 kq l0 x5_10 x9_3 x159000_3 (wrap64 (Int.tdiv a1 x5_10)) = some (r1, r2)) ∧ Aside0 (kq ≤ kj10) ∧ Aside0 (Kd.S (Kd.slice 3 (Kd.int .i64)) 23 w' w.heap.size (fun _ => True) u159000 x159000_3) ∧ Aside0 (w'.heap[gb150]? = some (.cells #[(.slice none 0 0), .int .i64 0] 27 (0, 0))) ∧ Aside0 (w'.heap[gb158]? = some (.cells #[u159000, .int .i64 (wrap64 (Int.tdiv a1 x5_10))] 27 (0, 0))) ∧ Aside0 (Below w.heap.size w w'))
          case atStart => exact ⟨(0), (y155), (.slice Ao16 y155.length co16), sR, H', ⟨Nat.le_refl _⟩, ⟨Kd.SM (Kd.S_far (p := ⟨gb158, 1, none⟩) (Kd.S_far (p := ⟨gb158, 0, none⟩) (Kd.S_types HO157.out BK158.out (by decide)) (fun _ hk => hk.2) (.slice Ao16 y155.length co16)) (fun _ hk => hk.2) (.int .i64 (wrap64 (Int.tdiv a1 x5_10)))) (fun _ hk => trivial)⟩, ⟨by (with_reducible repeat (first | refine blk_drewN ?_ _ | refine blk_drew ?_ | refine blk_alloc ?_ _)); refine blk_far ?_ NB150_158.out _; (with_reducible repeat (first | refine blk_drewN ?_ _ | refine blk_drew ?_ | refine blk_alloc ?_ _)); refine blk_far ?_ NB150_158.out _; (with_reducible repeat (first | refine blk_drewN ?_ _ | refine blk_drew ?_ | refine blk_alloc ?_ _)); exact BK150.out⟩, ⟨by (with_reducible repeat (first | refine blk_drewN ?_ _ | refine blk_drew ?_ | refine blk_alloc ?_ _)); refine blk_put (cs := #[.slice Ao16 y155.length co16, .int .i64 0]) ?_ 1 _ rfl; (with_reducible repeat (first | refine blk_drewN ?_ _ | refine blk_drew ?_ | refine blk_alloc ?_ _)); refine blk_put (cs := #[.slice none 0 0, .int .i64 0]) ?_ 0 _ rfl; (with_reducible repeat (first | refine blk_drewN ?_ _ | refine blk_drew ?_ | refine blk_alloc ?_ _)); exact BK158.out⟩, ⟨BU⟩⟩
          case round =>
            clear H'; (try clear c4); (try clear c4b0); (try clear c13); (try clear c13b0); (try clear c13b1); (try clear hcz19_0); (try clear hcz19_1); (try clear hfz19_0); (try clear hfz19_1); obtain ⟨x9_3, x159000_3, u159000, rfl, HA, HK3, HO_159000, BK150, BK158, HB⟩ := hrel; cases gk with
            | zero => exact absurd HA.out (by simp [spec_l7Low.l2])
            | succ k3 =>
              have H := HA.out; clear HA; simp only [spec_l7Low.l2] at H
              by_cases c20 : x9_3 < (l0.length : Int)
              · rw [if_pos c20] at H
                have c20b0 : decide (x9_3 < (l0.length : Int)) = true := decide_eq_true c20; clear c20; obtain ⟨y159, hy159⟩ : ∃ y_ : List Int, y_ = (([] : List Int)) := ⟨_, rfl⟩; replace H : (spec_l7Low.l3 k3 l0 x5_10 x9_3 y159 0 x159000_3 (wrap64 (Int.tdiv a1 x5_10))) = some (r1, r2) := rH hy159 H; have Ny159 := Aside0.mk hy159; clear hy159; have H' := Aside0.mk H; clear H
                go_wp2_with (first | ((with_reducible refine gate_dst (N := 52) rfl ?_); refine Kd.R_lit (Kd.int .i64) _ 3 ?hg (N := 52) ?hd (xs := ([] : List Int)) (inner := []) (ok := fun _ => True) (okp := fun _ => True) ?hr ?hp (fun _ hk => hk) trivial (Below.refl _ _) (Nat.le_refl _) (by simp) ?_; (case hd => rfl); (case hg => rfl); (case hr => first | (go_simp; done) | (go_simp; rfl)); (case hp => exact (Reps.none _ _)); intro v160 w21 ho22 hb hg_ hnew_; clear hg_ hnew_; (first | rw [← Ny159.out] at ho22 | (simp only [Int.reduceToNat] at ho22; rw [← Ny159.out] at ho22)); replace HO_159000 := Aside0.mk (Kd.S_elder' (U HO_159000.out) (Kd.R_base ho22) hb); have HO161 := Aside0.mk (Kd.R_lower ho22 (below_size BU)); replace BK150 := bB BK150 hb; replace BK158 := bB BK158 hb; replace HB := BS hb; clear hb ho22))
                go_loopg [10, 11] k3 (fun kq v10 v11 w' => ∃ (x10_4 : List Int) (x11_4 : Int), v11 = .int .i64 x11_4 ∧ Aside0 (spec_l7Low.l3 kq l0 x5_10 x9_3 x10_4 x11_4 x159000_3 (wrap64 (Int.tdiv a1 x5_10)) = some (r1, r2)) ∧ Aside0 (kq ≤ k3) ∧ Aside0 (Kd.R (Kd.int .i64) 3 w' w.heap.size (fun _ => True) v10 x10_4) ∧ Aside0 (Kd.S (Kd.slice 3 (Kd.int .i64)) 23 w' w.heap.size (fun k_ => some k_ ≠ (v10 : Value).ownBlock) u159000 x159000_3) ∧ Aside0 (w'.heap[gb150]? = some (.cells #[(.slice none 0 0), .int .i64 0] 27 (0, 0))) ∧ Aside0 (w'.heap[gb158]? = some (.cells #[u159000, .int .i64 (wrap64 (Int.tdiv a1 x5_10))] 27 (0, 0))) ∧ Aside0 (Below w.heap.size w w'))
                case atStart => exact ⟨(y159), (0), sR, H', ⟨Nat.le_refl _⟩, ⟨U HO161.out⟩, ⟨Kd.SM HO_159000.out (fun _ hk => hk.2)⟩, ⟨U BK150.out⟩, ⟨U BK158.out⟩, ⟨BU⟩⟩
                case round =>
                  clear H'; (try clear c4); (try clear c4b0); (try clear c13); (try clear c13b0); (try clear c13b1); (try clear c20); (try clear c20b0); (try clear hcz19_0); (try clear hcz19_1); (try clear hfz19_0); (try clear hfz19_1); obtain ⟨x10_4, x11_4, rfl, HA, HK4, HO_10, HO_159000, BK150, BK158, HB⟩ := hrel; cases gk with
                  | zero => exact absurd HA.out (by simp [spec_l7Low.l3])
                  | succ k4 =>
                    have H := HA.out; clear HA; simp only [spec_l7Low.l3] at H; obtain ⟨c23, H⟩ := ifN H; have c23b0 : decide (0 ≤ x9_3) = true := decide_eq_true c23; clear c23; obtain ⟨c24, H⟩ := ifN H; have c24b0 : decide (x9_3 < (l0.length : Int)) = true := decide_eq_true c24; clear c24
                    by_cases c25 : x11_4 < ((rd_L2 l0 x9_3).length : Int)
                    · rw [if_pos c25] at H
                      have c25b0 : decide (x11_4 < ((rd_L2 l0 x9_3).length : Int)) = true := decide_eq_true c25; clear c25; obtain ⟨c26, H⟩ := ifN H; have c26b0 : decide (0 ≤ x11_4) = true := decide_eq_true c26; clear c26; obtain ⟨c27, H⟩ := ifM H; have c27b0 : (x5_10 == 0) = false := beq_eq_false_iff_ne.mpr c27; have c27b1 : (x5_10 != 0) = true := bne_iff_ne.mpr c27; obtain ⟨c28, H⟩ := ifN H; have LMc28 := Aside0.mk c28; clear c28; obtain ⟨y165, hy165⟩ : ∃ y_ : List Int, y_ = (x10_4 ++ [wrap64 (Int.tdiv (rd (rd_L2 l0 x9_3) x11_4) x5_10)]) := ⟨_, rfl⟩; replace H : (spec_l7Low.l3 k4 l0 x5_10 x9_3 y165 (wrap64 (x11_4 + 1)) x159000_3 (wrap64 (Int.tdiv a1 x5_10))) = some (r1, r2) := rH hy165 H; have Ny165 := Aside0.mk hy165; clear hy165; have H' := Aside0.mk H; clear H; have p162 : 0 ≤ (x9_3 : Int) := oD; have q162 : x9_3 < (l0.length : Int) := oD; obtain ⟨ad162, A162_0, c162_0, e162, hx162_0, hl162_0, hi162_0⟩ := at_L2 HR0.out x9_3 p162 q162; cases e162; replace hx162_0 := (HB.out.cell (World.block_lt_of_cell? w _ hx162_0)).trans hx162_0; have HR162_0 := Aside0.mk hi162_0; have HC162_0 := Aside0.mk hl162_0; clear hi162_0 hl162_0; replace p162 := eq_true p162; replace q162 := eq_true q162; have p163 : 0 ≤ (x9_3 : Int) := oD; have q163 : x9_3 < (l0.length : Int) := oD; obtain ⟨ad163, A163_0, c163_0, e163, hx163_0, hl163_0, hi163_0⟩ := at_L2 HR0.out x9_3 p163 q163; obtain rfl : ad162 = ad163 := (by injection e163); replace hx163_0 := (HB.out.cell (World.block_lt_of_cell? w _ hx163_0)).trans hx163_0; have HR163_0 := Aside0.mk hi163_0; have HC163_0 := Aside0.mk hl163_0; clear hi163_0 hl163_0; replace p163 := eq_true p163; replace q163 := eq_true q163; have ea_ := Option.some.inj (hx162_0.symm.trans hx163_0)
                      injection ea_ with ea_ en_ ec_
                      subst ea_; subst ec_; clear en_; have p164 : 0 ≤ (x11_4 : Int) := oD; have q164 : x11_4 < ((rd_L2 l0 x9_3).length : Int) := oD; obtain ⟨ad164, e164, hx164_0⟩ := Kd.at_int HR163_0.out x11_4 p164 q164; cases e164; replace hx164_0 := (HB.out.cell (World.block_lt_of_cell? w _ hx164_0)).trans hx164_0; replace p164 := eq_true p164; replace q164 := eq_true q164
                      go_wp2_with (first | ((with_reducible refine gate_builtin (b := .append) (xs := #[.tmp 62, .tmp 72]) rfl ?_); at_builtin; refine Kd.R_append (Kd.int .i64) (w0 := w) w.heap.size rfl (.tmp 62) (.tmp 72) 23 3 (.int .i64 0) 8 rfl Try.underlying23 info3 rfl (by decide) (by omega) u10 x10_4 (wrap64 (Int.tdiv (rd (rd_L2 l0 x9_3) x11_4) x5_10)) [.int .i64 (wrap64 (Int.tdiv (rd (rd_L2 l0 x9_3) x11_4) x5_10))] (fun _ => True) (fun _ => False) rfl rfl ?aP (fun _ hk => hk.elim) ?aF ?aO ?aB ?aS ?aL ?_; (case aP => exact rfl); (case aB => exact BU); (case aF => exact (fun _ _ => trivial)); (case aO => exact (U HO_10.out)); (case aS => exact (below_size BU)); (case aL => have := LMc28.out; omega); intro v166 w29 ho hb hg hat; rw [← Ny165.out] at ho; have n0_ := Aside0.mk (Kd.S_after (ok := (fun _ => True)) (Kd.SM HO_159000.out (fun _ hk => ⟨trivial, hk⟩)) hg hat); have n1_ := bG BK150 hg (Kd.R_ne HO_10.out BK150.out (by decide)); have n2_ := bG BK158 hg (Kd.R_ne HO_10.out BK158.out (by decide)); have n3_ := Aside0.mk (hb); have n4_ := Aside0.mk (ho); clear HO_159000; clear BK150; clear BK158; try clear HB; clear HO_10; have HO_159000 := n0_; have BK150 := n1_; have BK158 := n2_; have HB := n3_; have HO167 := n4_; clear n0_ n1_ n2_ n3_ n4_; clear ho hb hg hat))
                      go_roundg k4
                      case measure => have := HK1.out; have := HJ10.out; have := HK3.out; have := HK4.out; omega
                      case rel => exact ⟨(y165), (wrap64 (x11_4 + 1)), sR, H', ⟨by have := HK1.out; have := HJ10.out; have := HK3.out; have := HK4.out; omega⟩, ⟨U HO167.out⟩, ⟨Kd.SM HO_159000.out (fun _ hk => hk.2)⟩, ⟨U BK150.out⟩, ⟨U BK158.out⟩, ⟨BU⟩⟩
                    rw [if_neg c25] at H; have c25b0 : decide (x11_4 < ((rd_L2 l0 x9_3).length : Int)) = false := decide_eq_false c25; clear c25; obtain ⟨c30, H⟩ := ifN H; have LMc30 := Aside0.mk c30; clear c30; obtain ⟨y168, hy168⟩ : ∃ y_ : List (List Int), y_ = (x159000_3 ++ [x10_4]) := ⟨_, rfl⟩; replace H : (spec_l7Low.l2 k4 l0 x5_10 (wrap64 (x9_3 + 1)) y168 (wrap64 (Int.tdiv a1 x5_10))) = some (r1, r2) := rH hy168 H; have Ny168 := Aside0.mk hy168; clear hy168; have H' := Aside0.mk H; clear H; have p162 : 0 ≤ (x9_3 : Int) := oD; have q162 : x9_3 < (l0.length : Int) := oD; obtain ⟨ad162, A162_0, c162_0, e162, hx162_0, hl162_0, hi162_0⟩ := at_L2 HR0.out x9_3 p162 q162; cases e162; replace hx162_0 := (HB.out.cell (World.block_lt_of_cell? w _ hx162_0)).trans hx162_0; have HR162_0 := Aside0.mk hi162_0; have HC162_0 := Aside0.mk hl162_0; clear hi162_0 hl162_0; replace p162 := eq_true p162; replace q162 := eq_true q162; have hnb31 := NB158_150.out; have hnc31 := NB150_158.out; obtain ⟨hcz32_0, hcz32_1, hfz32_0, hfz32_1⟩ := bcf BK158; obtain ⟨Ao34, co34, eo34⟩ := Kd.R_slice HO_10.out; subst eo34
                    go_wp2_with (first | ((with_reducible refine gate_builtin (b := .append) (xs := #[.tmp 75, .tmp 77]) rfl ?_); at_builtin; refine Kd.S_append (Kd.slice 3 (Kd.int .i64)) (w0 := w) w.heap.size rfl (.tmp 75) (.tmp 77) 25 23 (.slice none 0 0) 24 rfl Try.underlying25 info23 rfl (by decide) (by omega) u159000 x159000_3 x10_4 [.slice Ao34 x10_4.length co34] (fun _ => True) (fun k_ => some k_ = (.slice Ao34 x10_4.length co34 : Value).ownBlock) rfl rfl ?aP (fun k_ hk_ => ((Kd.R_mono (ok' := fun k_ => ((fun _ => True)) k_ ∧ some k_ ≠ (u159000 : Value).ownBlock) (Kd.R_apart' (HO_10.out) (Kd.S_typed HO_159000.out) (by decide)) (fun k_ hk => ⟨trivial, hk.2⟩))).1 k_ hk_.symm) ?aF ?aO ?aB ?aS ?aL ?_; (case aP => exact Kd.M_row (Kd.R_mono (Kd.R_tight rfl (Kd.R_mono (ok' := fun k_ => ((fun _ => True)) k_ ∧ some k_ ≠ (u159000 : Value).ownBlock) (Kd.R_apart' (HO_10.out) (Kd.S_typed HO_159000.out) (by decide)) (fun k_ hk => ⟨trivial, hk.2⟩))) (fun _ h_ => h_))); (case aB => exact BU); (case aF => exact (fun _ _ => trivial)); (case aO => exact (Kd.SM HO_159000.out (fun k_ hk => ⟨trivial, fun e_ => hk e_⟩))); (case aS => exact (below_size BU)); (case aL => have := LMc30.out; omega); intro v169 w33 ho hb hg hat; rw [← Ny168.out] at ho; have n0_ := bG BK150 hg (Kd.S_ne HO_159000.out BK150.out (by decide)); have n1_ := bG BK158 hg (Kd.S_ne HO_159000.out BK158.out (by decide)); have n2_ := Aside0.mk (hb); have n3_ := Aside0.mk (ho); clear BK150; clear BK158; try clear HB; clear HO_159000; clear HO_10; have BK150 := n0_; have BK158 := n1_; have HB := n2_; have HO170 := n3_; clear n0_ n1_ n2_ n3_; clear ho hb hg hat; obtain ⟨Ao35, co35, eo35⟩ := Kd.S_slice HO170.out; subst eo35; obtain ⟨hcz36_0, hcz36_1, hfz36_0, hfz36_1⟩ := bcf BK158))
                    go_roundg k4
                    case measure => have := HK1.out; have := HJ10.out; have := HK3.out; have := HK4.out; omega
                    case rel => exact ⟨(wrap64 (x9_3 + 1)), (y168), (.slice Ao35 y168.length co35), sR, H', ⟨by have := HK1.out; have := HJ10.out; have := HK3.out; have := HK4.out; omega⟩, ⟨Kd.SM (Kd.S_far (p := ⟨gb158, 0, none⟩) (Kd.S_types HO170.out BK158.out (by decide)) (fun _ hk => hk.2) (.slice Ao35 y168.length co35)) (fun _ hk => trivial)⟩, ⟨by (with_reducible repeat (first | refine blk_drewN ?_ _ | refine blk_drew ?_ | refine blk_alloc ?_ _)); refine blk_far ?_ NB150_158.out _; (with_reducible repeat (first | refine blk_drewN ?_ _ | refine blk_drew ?_ | refine blk_alloc ?_ _)); exact BK150.out⟩, ⟨by (with_reducible repeat (first | refine blk_drewN ?_ _ | refine blk_drew ?_ | refine blk_alloc ?_ _)); refine blk_put (cs := #[u159000, .int .i64 (wrap64 (Int.tdiv a1 x5_10))]) ?_ 0 _ rfl; (with_reducible repeat (first | refine blk_drewN ?_ _ | refine blk_drew ?_ | refine blk_alloc ?_ _)); exact BK158.out⟩, ⟨BU⟩⟩
              rw [if_neg c20] at H; have c20b0 : decide (x9_3 < (l0.length : Int)) = false := decide_eq_false c20; clear c20; simp only [Option.some.injEq, Prod.mk.injEq] at H; obtain ⟨rfl, rfl⟩ := H; have hnb37 := NB158_150.out; have hnc37 := NB150_158.out; obtain ⟨hcz38_0, hcz38_1, hfz38_0, hfz38_1⟩ := bcf BK158; obtain ⟨Ao39, co39, eo39⟩ := Kd.S_slice HO_159000.out; subst eo39; obtain ⟨hcz40_0, hcz40_1, hfz40_0, hfz40_1⟩ := bcf BK150
              go_wp2
              refine bodyPost_ret (results_cell_row rfl _ _ gb150 27 #[.slice Ao39 x159000_3.length co39, .int .i64 (wrap64 (Int.tdiv a1 x5_10))] (0, 0) _ rfl (by (with_reducible repeat (first | refine blk_drewN ?_ _ | refine blk_drew ?_ | refine blk_alloc ?_ _)); refine blk_put (cs := #[.slice Ao39 x159000_3.length co39, .int .i64 0]) ?_ 1 _ rfl; (with_reducible repeat (first | refine blk_drewN ?_ _ | refine blk_drew ?_ | refine blk_alloc ?_ _)); refine blk_put (cs := #[.slice none 0 0, .int .i64 0]) ?_ 0 _ rfl; (with_reducible repeat (first | refine blk_drewN ?_ _ | refine blk_drew ?_ | refine blk_alloc ?_ _)); exact BK150.out) Try.underlying27 rfl (by kernel_rfl)) rfl ?_
              exact ⟨_, eR, Kd.SM (Kd.S_far (p := ⟨gb150, 1, none⟩) (Kd.S_far (p := ⟨gb150, 0, none⟩) (Kd.S_types HO_159000.out BK150.out (by decide)) (fun _ hk => hk.2) (.slice Ao39 x159000_3.length co39)) (fun _ hk => hk.2) (.int .i64 (wrap64 (Int.tdiv a1 x5_10)))) (fun _ hk => trivial), BU⟩

/-! ### spec_l4Value: function 75 -/
def spec_l4Value.l0 : Nat → List Int → List Int → Int → Int → Option (Int)
  | 0, _, _, _, _ => none
  | k + 1, x0, x1, x5, x6 => if x6 < (x0.length : Int) then (if 0 ≤ x6 then (if x6 < (x1.length : Int) then (spec_l4Value.l0 k x0 x1 (wrap64 (x5 + (wrap64 ((wrap64 ((rd x0 x6) * (rd x1 x6))) * (rd x1 x6))))) (wrap64 (x6 + 1))) else (none)) else (none)) else (some x5)
def spec_l4Value.f (k : Nat) (l0 : List Int) (l1 : List Int) : Option (Int) := spec_l4Value.l0 k l0 l1 0 0
theorem spec_l4Value.mono_l : ∀ k, (∀ y0 y1 y2 y3, LeO (spec_l4Value.l0 k y0 y1 y2 y3) (spec_l4Value.l0 (k + 1) y0 y1 y2 y3))
  | 0 => fun _ _ _ _ r h => by simp [spec_l4Value.l0] at h
  | k + 1 => by
    have ih0 := spec_l4Value.mono_l k
    · intro y0 y1 y2 y3
      unfold spec_l4Value.l0
      repeat' first
      | (with_reducible exact ih0 _ _ _ _)
      | (with_reducible exact LeO.refl _)
      | (with_reducible exact LeO.none _)
      | (with_reducible refine LeO.ite ?_ ?_)
      | (with_reducible refine LeO.bind ?_ (fun _ => ?_))
      | exact ih0 _ _ _ _
      | exact LeO.none _
      | refine LeO.ite ?_ ?_
      | refine LeO.bind ?_ (fun _ => ?_)
theorem spec_l4Value.mono : ∀ a0 a1 k, LeO (spec_l4Value.f k a0 a1) (spec_l4Value.f (k + 1) a0 a1) := by
  intro a0 a1 k
  have ih0 := spec_l4Value.mono_l k
  unfold spec_l4Value.f
  repeat' first
      | (with_reducible exact ih0 _ _ _ _)
      | (with_reducible exact LeO.refl _)
      | (with_reducible exact LeO.none _)
      | (with_reducible refine LeO.ite ?_ ?_)
      | (with_reducible refine LeO.bind ?_ (fun _ => ?_))
      | exact ih0 _ _ _ _
      | exact LeO.none _
      | refine LeO.ite ?_ ?_
      | refine LeO.bind ?_ (fun _ => ?_)
set_option maxHeartbeats 8000000 in
set_option maxRecDepth 100000 in
theorem spec_l4Value.calls (k : Nat) (A0 : Option Addr) (c0 : Nat) (l0 : List Int) (A1 : Option Addr) (c1 : Nat) (l1 : List Int) (r : Int) (w : World) (hr0 : Kd.C (Kd.int .i64) w A0 l0.length l0) (hc0 : l0.length ≤ c0) (hr1 : Kd.C (Kd.int .i64) w A1 l1.length l1) (hc1 : l1.length ≤ c1) (h : spec_l4Value.f k l0 l1 = some r) :
    Calls Try.prog 75 #[.slice A0 l0.length c0, .slice A1 l1.length c1] w fun e w' => e = .returned (.int .i64 r) ∧ Drawn0 w w' := by
  have HR0 := Aside0.mk hr0; have HC0 := Aside0.mk hc0; clear hr0 hc0; have HR1 := Aside0.mk hr1; have HC1 := Aside0.mk hc1; clear hr1 hc1; unfold spec_l4Value.f at h; have H := h; clear h; have H' := Aside0.mk H; clear H; go_enter Try.func75, Try.ntmps75
  go_wp2
  repeat (go_quiet (fail); try go_wp2)
  go_loopg [5, 6] k (fun kq v5 v6 w' => ∃ (x5_1 : Int) (x6_1 : Int), v5 = .int .i64 x5_1 ∧ v6 = .int .i64 x6_1 ∧ Aside0 (spec_l4Value.l0 kq l0 l1 x5_1 x6_1 = some r) ∧ Aside0 (kq ≤ k) ∧ Drawn0 w w')
  case atStart => exact ⟨(0), (0), sR, sR, H', ⟨Nat.le_refl _⟩, by repeat (first | exact Drawn0.refl _ | apply Drawn0.step)⟩
  case round =>
    clear H'; obtain ⟨x5_1, x6_1, rfl, rfl, HA, HK1, ⟨m1, rfl⟩⟩ := hrel; cases gk with
    | zero => exact absurd HA.out (by simp [spec_l4Value.l0])
    | succ k1 =>
      have H := HA.out; clear HA; simp only [spec_l4Value.l0] at H
      by_cases c3 : x6_1 < (l0.length : Int)
      · rw [if_pos c3] at H
        have c3b0 : decide (x6_1 < (l0.length : Int)) = true := decide_eq_true c3; clear c3; obtain ⟨c4, H⟩ := ifN H; have c4b0 : decide (0 ≤ x6_1) = true := decide_eq_true c4; clear c4; obtain ⟨c5, H⟩ := ifN H; have c5b0 : decide (x6_1 < (l1.length : Int)) = true := decide_eq_true c5; clear c5; have H' := Aside0.mk H; clear H; have p171 : 0 ≤ (x6_1 : Int) := oD; have q171 : x6_1 < (l0.length : Int) := oD; obtain ⟨ad171, e171, hx171_0⟩ := Kd.at_int HR0.out x6_1 p171 q171; cases e171; replace p171 := eq_true p171; replace q171 := eq_true q171; have p172 : 0 ≤ (x6_1 : Int) := oD; have q172 : x6_1 < (l1.length : Int) := oD; obtain ⟨ad172, e172, hx172_0⟩ := Kd.at_int HR1.out x6_1 p172 q172; cases e172; replace p172 := eq_true p172; replace q172 := eq_true q172; have p173 : 0 ≤ (x6_1 : Int) := oD; have q173 : x6_1 < (l1.length : Int) := oD; obtain ⟨ad173, e173, hx173_0⟩ := Kd.at_int HR1.out x6_1 p173 q173; obtain rfl : ad172 = ad173 := (by injection e173); replace p173 := eq_true p173; replace q173 := eq_true q173
        go_wp2
        repeat (go_quiet (fail); try go_wp2)
        go_roundg k1
        case measure => have := HK1.out; omega
        case rel => exact ⟨(wrap64 (x5_1 + (wrap64 ((wrap64 ((rd l0 x6_1) * (rd l1 x6_1))) * (rd l1 x6_1))))), (wrap64 (x6_1 + 1)), sR, sR, H', ⟨by have := HK1.out; omega⟩, by repeat (first | exact Drawn0.refl _ | apply Drawn0.step)⟩
      rw [if_neg c3] at H; have c3b0 : decide (x6_1 < (l0.length : Int)) = false := decide_eq_false c3; clear c3; obtain rfl := Option.some.inj H
      go_wp2
      repeat (go_quiet (fail); try go_wp2)
      go_ret
      exact ⟨by first | rfl | (simp; done) | (simp [*]; done), by repeat (first | exact Drawn0.refl _ | apply Drawn0.step)⟩

end Go.Proofs.Ytnbeeogmaamgdaa.PFnOn
