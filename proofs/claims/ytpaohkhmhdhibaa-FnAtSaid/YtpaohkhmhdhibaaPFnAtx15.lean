-- Written by a program of this session (wip/print2.py): the functions that the law reaches, plain, and the walks.
import Derived.Test.YtpaohkhmhdhibaaPFnAtx0
import Derived.Test.YtpaohkhmhdhibaaPFnAtx6
import Derived.Test.YtpaohkhmhdhibaaPFnAtx9
import Derived.Test.YtpaohkhmhdhibaaPFnAtx14
namespace Go.Proofs.Ytpaohkhmhdhibaa.PFnAt
open Go.RowKit Go.Proofs.YtpaohkhmhdhibaaW.PrintWords Go.Proofs.YtpaohkhmhdhibaaW.PrintLast Go.Proofs.YtpaohkhmhdhibaaW.PrintMore
attribute [local go_sem] max2_int min2_int max_two min_two max_three min_three max_four min_four   -- for this text's walks alone
set_option linter.unusedVariables false
set_option linter.unusedSimpArgs false

/-! ### spec_ZeroIs: function 34 -/
def spec_ZeroIs.f (k : Nat) (l0 : List Int) (l1 : List Int) : Option (Bool) := (spec_l4Vector.f k l0 l1 1000000).bind fun t493 => (if t493 = true then ((spec_l5Some.f k l1).bind fun t494 => (if t494 = true then ((spec_l4Value.f k l0 l1).bind fun t495 => (some (t495 == 0))) else (some false))) else (some false))
theorem spec_ZeroIs.mono : ∀ a0 a1 k, LeO (spec_ZeroIs.f k a0 a1) (spec_ZeroIs.f (k + 1) a0 a1) := by
  intro a0 a1 k
  unfold spec_ZeroIs.f
  repeat' first
      | (with_reducible exact spec_l4Value.mono _ _ _)
      | (with_reducible exact spec_l4Vector.mono _ _ _ _)
      | (with_reducible exact spec_l5Some.mono _ _)
      | (with_reducible exact LeO.refl _)
      | (with_reducible exact LeO.none _)
      | (with_reducible refine LeO.ite ?_ ?_)
      | (with_reducible refine LeO.bind ?_ (fun _ => ?_))
      | exact spec_l4Value.mono _ _ _
      | exact spec_l4Vector.mono _ _ _ _
      | exact spec_l5Some.mono _ _
      | exact LeO.none _
      | refine LeO.ite ?_ ?_
      | refine LeO.bind ?_ (fun _ => ?_)
set_option maxHeartbeats 8000000 in
set_option maxRecDepth 100000 in
theorem spec_ZeroIs.calls (k : Nat) (A0 : Option Addr) (c0 : Nat) (l0 : List Int) (A1 : Option Addr) (c1 : Nat) (l1 : List Int) (r : Bool) (w : World) (hr0 : Kd.C (Kd.int .i64) w A0 l0.length l0) (hc0 : l0.length ≤ c0) (hr1 : Kd.C (Kd.int .i64) w A1 l1.length l1) (hc1 : l1.length ≤ c1) (h : spec_ZeroIs.f k l0 l1 = some r) :
    Calls Try.prog 34 #[.slice A0 l0.length c0, .slice A1 l1.length c1] w fun e w' => e = .returned (.bool r) ∧ Drawn0 w w' := by
  have HR0 := Aside0.mk hr0; have HC0 := Aside0.mk hc0; clear hr0 hc0; have HR1 := Aside0.mk hr1; have HC1 := Aside0.mk hc1; clear hr1 hc1; unfold spec_ZeroIs.f at h; have H := h; clear h; obtain ⟨t493, A3, H⟩ := bnd H
  by_cases c4 : t493 = true
  · subst c4
    replace H := ifT H; obtain ⟨t494, A5, H⟩ := bnd H
    by_cases c6 : t494 = true
    · subst c6
      replace H := ifT H; obtain ⟨t495, A7, H⟩ := bnd H; obtain rfl := Option.some.inj H; go_enter Try.func34, Try.ntmps34
      go_wp2_with (first | ((with_reducible refine gate_callee (f := 44) rfl ?_); refine goesK (some 7) Try.func44 #[.slice A0 l0.length c0, .slice A1 l1.length c1, .int .i64 1000000] ?_; (with_reducible refine (spec_l4Vector.calls k _ _ l0 _ _ l1 1000000 true _ ?side1 ?side2 ?side3 ?side4 A3.out).mono ?_); (case side1 => exact U HR0.out); (case side2 => exact HC0.out); (case side3 => exact U HR1.out); (case side4 => exact HC1.out); rintro e w' ⟨rfl, ⟨nd, rfl⟩⟩; refine ⟨_, rfl, ?_⟩) | (go_at_call 61; (with_reducible refine (spec_l5Some.calls k _ _ l1 true _ ?side1 ?side2 A5.out).mono ?_); (case side1 => exact U HR1.out); (case side2 => exact HC1.out); rintro e w' ⟨rfl, ⟨nd, rfl⟩⟩) | (go_at_call 46; (with_reducible refine (spec_l4Value.calls k _ _ l0 _ _ l1 t495 _ ?side1 ?side2 ?side3 ?side4 A7.out).mono ?_); (case side1 => exact U HR0.out); (case side2 => exact HC0.out); (case side3 => exact U HR1.out); (case side4 => exact HC1.out); rintro e w' ⟨rfl, ⟨nd, rfl⟩⟩))
      go_ret
      exact ⟨by first | rfl | (simp; done) | (simp [*]; done), by repeat (first | exact Drawn0.refl _ | apply Drawn0.step)⟩
    replace c6 := Bool.eq_false_iff.mpr c6; subst c6; replace H := ifF H; obtain rfl := Option.some.inj H; go_enter Try.func34, Try.ntmps34
    go_wp2_with (first | ((with_reducible refine gate_callee (f := 44) rfl ?_); refine goesK (some 7) Try.func44 #[.slice A0 l0.length c0, .slice A1 l1.length c1, .int .i64 1000000] ?_; (with_reducible refine (spec_l4Vector.calls k _ _ l0 _ _ l1 1000000 true _ ?side1 ?side2 ?side3 ?side4 A3.out).mono ?_); (case side1 => exact U HR0.out); (case side2 => exact HC0.out); (case side3 => exact U HR1.out); (case side4 => exact HC1.out); rintro e w' ⟨rfl, ⟨nd, rfl⟩⟩; refine ⟨_, rfl, ?_⟩) | (go_at_call 61; (with_reducible refine (spec_l5Some.calls k _ _ l1 false _ ?side1 ?side2 A5.out).mono ?_); (case side1 => exact U HR1.out); (case side2 => exact HC1.out); rintro e w' ⟨rfl, ⟨nd, rfl⟩⟩))
    go_ret
    exact ⟨by first | rfl | (simp; done) | (simp [*]; done), by repeat (first | exact Drawn0.refl _ | apply Drawn0.step)⟩
  replace c4 := Bool.eq_false_iff.mpr c4; subst c4; replace H := ifF H; obtain rfl := Option.some.inj H; go_enter Try.func34, Try.ntmps34
  go_wp2_with (first | ((with_reducible refine gate_callee (f := 44) rfl ?_); refine goesK (some 7) Try.func44 #[.slice A0 l0.length c0, .slice A1 l1.length c1, .int .i64 1000000] ?_; (with_reducible refine (spec_l4Vector.calls k _ _ l0 _ _ l1 1000000 false _ ?side1 ?side2 ?side3 ?side4 A3.out).mono ?_); (case side1 => exact U HR0.out); (case side2 => exact HC0.out); (case side3 => exact U HR1.out); (case side4 => exact HC1.out); rintro e w' ⟨rfl, ⟨nd, rfl⟩⟩; refine ⟨_, rfl, ?_⟩))
  go_ret
  exact ⟨by first | rfl | (simp; done) | (simp [*]; done), by repeat (first | exact Drawn0.refl _ | apply Drawn0.step)⟩

/-! ### spec_l6kPlain: function 35 -/
def spec_l6kPlain.l0 : Nat → List Int → List Int → Int → Option (Bool)
  | 0, _, _, _ => none
  | k + 1, x0, x3, x4 => if x4 < (x0.length : Int) then (if 0 ≤ x4 then (if x4 < (x3.length : Int) then (if (rd x3 x4) = (rd x0 x4) then (spec_l6kPlain.l0 k x0 x3 (wrap64 (x4 + 1))) else (some false)) else (none)) else (none)) else (some true)
def spec_l6kPlain.f (k : Nat) (l0 : List Int) : Option (Bool) := (spec_l5Plain.f k l0).bind fun t496 => (spec_l6kPlain.l0 k l0 t496 0)
theorem spec_l6kPlain.mono_l : ∀ k, (∀ y0 y1 y2, LeO (spec_l6kPlain.l0 k y0 y1 y2) (spec_l6kPlain.l0 (k + 1) y0 y1 y2))
  | 0 => fun _ _ _ r h => by simp [spec_l6kPlain.l0] at h
  | k + 1 => by
    have ih0 := spec_l6kPlain.mono_l k
    · intro y0 y1 y2
      unfold spec_l6kPlain.l0
      repeat' first
      | (with_reducible exact ih0 _ _ _)
      | (with_reducible exact spec_l5Plain.mono _ _)
      | (with_reducible exact LeO.refl _)
      | (with_reducible exact LeO.none _)
      | (with_reducible refine LeO.ite ?_ ?_)
      | (with_reducible refine LeO.bind ?_ (fun _ => ?_))
      | exact ih0 _ _ _
      | exact spec_l5Plain.mono _ _
      | exact LeO.none _
      | refine LeO.ite ?_ ?_
      | refine LeO.bind ?_ (fun _ => ?_)
theorem spec_l6kPlain.mono : ∀ a0 k, LeO (spec_l6kPlain.f k a0) (spec_l6kPlain.f (k + 1) a0) := by
  intro a0 k
  have ih0 := spec_l6kPlain.mono_l k
  unfold spec_l6kPlain.f
  repeat' first
      | (with_reducible exact ih0 _ _ _)
      | (with_reducible exact spec_l5Plain.mono _ _)
      | (with_reducible exact LeO.refl _)
      | (with_reducible exact LeO.none _)
      | (with_reducible refine LeO.ite ?_ ?_)
      | (with_reducible refine LeO.bind ?_ (fun _ => ?_))
      | exact ih0 _ _ _
      | exact spec_l5Plain.mono _ _
      | exact LeO.none _
      | refine LeO.ite ?_ ?_
      | refine LeO.bind ?_ (fun _ => ?_)
set_option maxHeartbeats 8000000 in
set_option maxRecDepth 100000 in
theorem spec_l6kPlain.calls (k : Nat) (A0 : Option Addr) (c0 : Nat) (l0 : List Int) (r : Bool) (w : World) (hr0 : Kd.C (Kd.int .i64) w A0 l0.length l0) (hc0 : l0.length ≤ c0) (h : spec_l6kPlain.f k l0 = some r) :
    Calls Try.prog 35 #[.slice A0 l0.length c0] w fun e w' => e = .returned (.bool r) ∧ Below w.heap.size w w' := by
  have HR0 := Aside0.mk hr0; have HC0 := Aside0.mk hc0; clear hr0 hc0; have HB := Aside0.mk (Below.refl w.heap.size w); unfold spec_l6kPlain.f at h; have H := h; clear h; obtain ⟨t496, A2, H⟩ := bnd H; have H' := Aside0.mk H; clear H; go_enter Try.func35, Try.ntmps35
  go_wp2_with (first | (go_at_call 48; (with_reducible refine (spec_l5Plain.calls k _ _ l0 t496 _ ?side1 ?side2 A2.out).mono ?_); (case side1 => exact U HR0.out); (case side2 => exact HC0.out); rintro e w3 ⟨v497, rfl, ho0, hb⟩; have HO498 := Aside0.mk (Kd.R_lower ho0 (below_size BU)); replace HB := BS hb; (try clear hb); (try clear ho0)))
  repeat (go_quiet (first | (go_at_call 48; (with_reducible refine (spec_l5Plain.calls k _ _ l0 t496 _ ?side1 ?side2 A2.out).mono ?_); (case side1 => exact U HR0.out); (case side2 => exact HC0.out); rintro e w3 ⟨v497, rfl, ho0, hb⟩; have HO498 := Aside0.mk (Kd.R_lower ho0 (below_size BU)); replace HB := BS hb; (try clear hb); (try clear ho0))); try go_wp2_with (first | (go_at_call 48; (with_reducible refine (spec_l5Plain.calls k _ _ l0 t496 _ ?side1 ?side2 A2.out).mono ?_); (case side1 => exact U HR0.out); (case side2 => exact HC0.out); rintro e w3 ⟨v497, rfl, ho0, hb⟩; have HO498 := Aside0.mk (Kd.R_lower ho0 (below_size BU)); replace HB := BS hb; (try clear hb); (try clear ho0))))
  go_loopg [4] k (fun kq v4 w' => ∃ (x4_1 : Int), v4 = .int .i64 x4_1 ∧ Aside0 (spec_l6kPlain.l0 kq l0 t496 x4_1 = some r) ∧ Aside0 (kq ≤ k) ∧ Aside0 (Kd.R (Kd.int .i64) 3 w' w.heap.size (fun _ => True) v497 t496) ∧ Aside0 (Below w.heap.size w w'))
  case atStart => exact ⟨(0), sR, H', ⟨Nat.le_refl _⟩, ⟨U HO498.out⟩, ⟨BU⟩⟩
  case round =>
    clear H'; obtain ⟨x4_1, rfl, HA, HK1, HO_3, HB⟩ := hrel; cases gk with
    | zero => exact absurd HA.out (by simp [spec_l6kPlain.l0])
    | succ k1 =>
      have H := HA.out; clear HA; simp only [spec_l6kPlain.l0] at H
      by_cases c4 : x4_1 < (l0.length : Int)
      · rw [if_pos c4] at H
        have c4b0 : decide (x4_1 < (l0.length : Int)) = true := decide_eq_true c4; clear c4; obtain ⟨c5, H⟩ := ifN H; have c5b0 : decide (0 ≤ x4_1) = true := decide_eq_true c5; clear c5; obtain ⟨c6, H⟩ := ifN H; have c6b0 : decide (x4_1 < (t496.length : Int)) = true := decide_eq_true c6; clear c6
        by_cases c7 : (rd t496 x4_1) = (rd l0 x4_1)
        · rw [if_pos c7] at H
          have c7b0 : ((rd t496 x4_1) == (rd l0 x4_1)) = true := beq_iff_eq.mpr c7; have c7b1 : ((rd t496 x4_1) != (rd l0 x4_1)) = false := bne_eq_false_iff_eq.mpr c7; clear c7; have H' := Aside0.mk H; clear H; obtain ⟨Ao8, co8, eo8⟩ := Kd.R_slice HO_3.out; subst eo8; have p499 : 0 ≤ (x4_1 : Int) := oD; have q499 : x4_1 < (t496.length : Int) := oD; obtain ⟨ad499, e499, hx499_0⟩ := Kd.at_int (Kd.R_reads' HO_3.out).2.2 x4_1 p499 q499; cases e499; replace p499 := eq_true p499; replace q499 := eq_true q499; have p500 : 0 ≤ (x4_1 : Int) := oD; have q500 : x4_1 < (l0.length : Int) := oD; obtain ⟨ad500, e500, hx500_0⟩ := Kd.at_int HR0.out x4_1 p500 q500; cases e500; replace hx500_0 := (HB.out.cell (World.block_lt_of_cell? w _ hx500_0)).trans hx500_0; replace p500 := eq_true p500; replace q500 := eq_true q500
          go_wp2
          repeat (go_quiet (fail); try go_wp2)
          go_roundg k1
          case measure => have := HK1.out; omega
          case rel => exact ⟨(wrap64 (x4_1 + 1)), sR, H', ⟨by have := HK1.out; omega⟩, ⟨U HO_3.out⟩, ⟨BU⟩⟩
        rw [if_neg c7] at H; have c7b0 : ((rd t496 x4_1) == (rd l0 x4_1)) = false := beq_eq_false_iff_ne.mpr c7; have c7b1 : ((rd t496 x4_1) != (rd l0 x4_1)) = true := bne_iff_ne.mpr c7; obtain rfl := Option.some.inj H; obtain ⟨Ao9, co9, eo9⟩ := Kd.R_slice HO_3.out; subst eo9; have p499 : 0 ≤ (x4_1 : Int) := oD; have q499 : x4_1 < (t496.length : Int) := oD; obtain ⟨ad499, e499, hx499_0⟩ := Kd.at_int (Kd.R_reads' HO_3.out).2.2 x4_1 p499 q499; cases e499; replace p499 := eq_true p499; replace q499 := eq_true q499; have p500 : 0 ≤ (x4_1 : Int) := oD; have q500 : x4_1 < (l0.length : Int) := oD; obtain ⟨ad500, e500, hx500_0⟩ := Kd.at_int HR0.out x4_1 p500 q500; cases e500; replace hx500_0 := (HB.out.cell (World.block_lt_of_cell? w _ hx500_0)).trans hx500_0; replace p500 := eq_true p500; replace q500 := eq_true q500
        go_wp2
        repeat (go_quiet (fail); try go_wp2)
        go_ret
        exact ⟨eR, BU⟩
      rw [if_neg c4] at H; have c4b0 : decide (x4_1 < (l0.length : Int)) = false := decide_eq_false c4; clear c4; obtain rfl := Option.some.inj H
      go_wp2
      repeat (go_quiet (fail); try go_wp2)
      go_ret
      exact ⟨eR, BU⟩

/-! ### spec_ZeroHeight: function 36 -/
def spec_ZeroHeight.l0 : Nat → List Int → Int → Int → Option (Int)
  | 0, _, _, _ => none
  | k + 1, x1, x5, x6 => if x6 < (x1.length : Int) then (if 0 ≤ x6 then ((spec_l1Size.f (rd x1 x6)).bind fun t503 => (spec_ZeroHeight.l0 k x1 (mx x5 t503) (wrap64 (x6 + 1)))) else (none)) else (some x5)
def spec_ZeroHeight.f (k : Nat) (l0 : List Int) (l1 : List Int) : Option (Int) := (spec_ZeroIs.f k l0 l1).bind fun t501 => (if t501 = true then (spec_ZeroHeight.l0 k l1 0 0) else (some (-1)))
theorem spec_ZeroHeight.mono_l : ∀ k, (∀ y0 y1 y2, LeO (spec_ZeroHeight.l0 k y0 y1 y2) (spec_ZeroHeight.l0 (k + 1) y0 y1 y2))
  | 0 => fun _ _ _ r h => by simp [spec_ZeroHeight.l0] at h
  | k + 1 => by
    have ih0 := spec_ZeroHeight.mono_l k
    · intro y0 y1 y2
      unfold spec_ZeroHeight.l0
      repeat' first
      | (with_reducible exact ih0 _ _ _)
      | (with_reducible exact spec_ZeroIs.mono _ _ _)
      | (with_reducible exact LeO.refl _)
      | (with_reducible exact LeO.none _)
      | (with_reducible refine LeO.ite ?_ ?_)
      | (with_reducible refine LeO.bind ?_ (fun _ => ?_))
      | exact ih0 _ _ _
      | exact spec_ZeroIs.mono _ _ _
      | exact LeO.none _
      | refine LeO.ite ?_ ?_
      | refine LeO.bind ?_ (fun _ => ?_)
theorem spec_ZeroHeight.mono : ∀ a0 a1 k, LeO (spec_ZeroHeight.f k a0 a1) (spec_ZeroHeight.f (k + 1) a0 a1) := by
  intro a0 a1 k
  have ih0 := spec_ZeroHeight.mono_l k
  unfold spec_ZeroHeight.f
  repeat' first
      | (with_reducible exact ih0 _ _ _)
      | (with_reducible exact spec_ZeroIs.mono _ _ _)
      | (with_reducible exact LeO.refl _)
      | (with_reducible exact LeO.none _)
      | (with_reducible refine LeO.ite ?_ ?_)
      | (with_reducible refine LeO.bind ?_ (fun _ => ?_))
      | exact ih0 _ _ _
      | exact spec_ZeroIs.mono _ _ _
      | exact LeO.none _
      | refine LeO.ite ?_ ?_
      | refine LeO.bind ?_ (fun _ => ?_)
set_option maxHeartbeats 8000000 in
set_option maxRecDepth 100000 in
theorem spec_ZeroHeight.calls (k : Nat) (A0 : Option Addr) (c0 : Nat) (l0 : List Int) (A1 : Option Addr) (c1 : Nat) (l1 : List Int) (r : Int) (w : World) (hr0 : Kd.C (Kd.int .i64) w A0 l0.length l0) (hc0 : l0.length ≤ c0) (hr1 : Kd.C (Kd.int .i64) w A1 l1.length l1) (hc1 : l1.length ≤ c1) (h : spec_ZeroHeight.f k l0 l1 = some r) :
    Calls Try.prog 36 #[.slice A0 l0.length c0, .slice A1 l1.length c1] w fun e w' => e = .returned (.int .i64 r) ∧ Below w.heap.size w w' := by
  have HR0 := Aside0.mk hr0; have HC0 := Aside0.mk hc0; clear hr0 hc0; have HR1 := Aside0.mk hr1; have HC1 := Aside0.mk hc1; clear hr1 hc1; have HB := Aside0.mk (Below.refl w.heap.size w); unfold spec_ZeroHeight.f at h; have H := h; clear h; obtain ⟨t501, A3, H⟩ := bnd H
  by_cases c4 : t501 = true
  · subst c4
    replace H := ifT H; have H' := Aside0.mk H; clear H; go_enter Try.func36, Try.ntmps36
    go_wp2_with (first | ((with_reducible refine gate_callee (f := 34) rfl ?_); refine goesK (some 9) Try.func34 #[.slice A0 l0.length c0, .slice A1 l1.length c1] ?_; (with_reducible refine (spec_ZeroIs.calls k _ _ l0 _ _ l1 true _ ?side1 ?side2 ?side3 ?side4 A3.out).mono ?_); (case side1 => exact U HR0.out); (case side2 => exact HC0.out); (case side3 => exact U HR1.out); (case side4 => exact HC1.out); rintro e w' ⟨rfl, ⟨nd, rfl⟩⟩; refine ⟨_, rfl, ?_⟩))
    go_loopg [5, 6] k (fun kq v5 v6 w' => ∃ (x5_1 : Int) (x6_1 : Int), v5 = .int .i64 x5_1 ∧ v6 = .int .i64 x6_1 ∧ Aside0 (spec_ZeroHeight.l0 kq l1 x5_1 x6_1 = some r) ∧ Aside0 (kq ≤ k) ∧ Aside0 (Below w.heap.size w w'))
    case atStart => exact ⟨(0), (0), sR, sR, H', ⟨Nat.le_refl _⟩, ⟨BU⟩⟩
    case round =>
      clear H'; (try clear c1); (try clear c4); obtain ⟨x5_1, x6_1, rfl, rfl, HA, HK1, HB⟩ := hrel; cases gk with
      | zero => exact absurd HA.out (by simp [spec_ZeroHeight.l0])
      | succ k1 =>
        have H := HA.out; clear HA; simp only [spec_ZeroHeight.l0] at H
        by_cases c5 : x6_1 < (l1.length : Int)
        · rw [if_pos c5] at H
          have c5b0 : decide (x6_1 < (l1.length : Int)) = true := decide_eq_true c5; clear c5; obtain ⟨c6, H⟩ := ifN H; have c6b0 : decide (0 ≤ x6_1) = true := decide_eq_true c6; clear c6; obtain ⟨t503, A7, H⟩ := bnd H; obtain ⟨ji8, hji8⟩ : ∃ j_ : Int, (mx x5_1 t503) = j_ := ⟨_, rfl⟩
          replace H : (spec_ZeroHeight.l0 k1 l1 ji8 (wrap64 (x6_1 + 1))) = some r := by first | (rw [hji8] at H; exact H) | (simp only [hji8] at H ⊢; exact H)
          (try rw [hji8] at A7)
          have hji8_ : (if x5_1 < t503 then t503 else x5_1) = ji8 := hji8; have H' := Aside0.mk H; clear H; have p502 : 0 ≤ (x6_1 : Int) := oD; have q502 : x6_1 < (l1.length : Int) := oD; obtain ⟨ad502, e502, hx502_0⟩ := Kd.at_int HR1.out x6_1 p502 q502; cases e502; replace hx502_0 := (HB.out.cell (World.block_lt_of_cell? w _ hx502_0)).trans hx502_0; replace p502 := eq_true p502; replace q502 := eq_true q502
          go_wp2_with (first | ((with_reducible refine gate_callee (f := 62) rfl ?_); refine goesK (some 22) Try.func62 #[.int .i64 (rd l1 x6_1)] ?_; (with_reducible refine (spec_l1Size.calls (rd l1 x6_1) t503 _ A7.out).mono ?_); rintro e w9 ⟨rfl, hb⟩; refine ⟨_, rfl, ?_⟩; replace HB := BS hb; (try clear hb)))
          go_roundg k1
          case measure => have := HK1.out; omega
          case rel => exact ⟨(ji8), (wrap64 (x6_1 + 1)), (by first | rfl | (simp; done) | (simp only [← hji8] <;> (first | rfl | simp)) | (simp [*]; done)), sR, H', ⟨by have := HK1.out; omega⟩, ⟨BU⟩⟩
        rw [if_neg c5] at H; have c5b0 : decide (x6_1 < (l1.length : Int)) = false := decide_eq_false c5; clear c5; obtain rfl := Option.some.inj H
        go_wp2
        go_ret
        exact ⟨eR, BU⟩
  replace c4 := Bool.eq_false_iff.mpr c4; subst c4; replace H := ifF H; obtain rfl := Option.some.inj H; go_enter Try.func36, Try.ntmps36
  go_wp2_with (first | ((with_reducible refine gate_callee (f := 34) rfl ?_); refine goesK (some 9) Try.func34 #[.slice A0 l0.length c0, .slice A1 l1.length c1] ?_; (with_reducible refine (spec_ZeroIs.calls k _ _ l0 _ _ l1 false _ ?side1 ?side2 ?side3 ?side4 A3.out).mono ?_); (case side1 => exact U HR0.out); (case side2 => exact HC0.out); (case side3 => exact U HR1.out); (case side4 => exact HC1.out); rintro e w' ⟨rfl, ⟨nd, rfl⟩⟩; refine ⟨_, rfl, ?_⟩))
  go_ret
  exact ⟨eR, BU⟩

/-! ### spec_ConicPoint: function 10 -/
def spec_ConicPoint.f (k : Nat) (l0 : List Int) (l1 : List Int) : Option (Bool) := if (l0.length : Int) = 3 then ((spec_ZeroIs.f k l0 l1).bind fun t504 => (if t504 = true then ((spec_l6kPlain.f k l1).bind fun t505 => (if t505 = true then ((spec_ZeroHeight.f k l0 l1).bind fun t506 => (some (decide (t506 ≤ 1000)))) else (some false))) else (some false))) else (some false)
theorem spec_ConicPoint.mono : ∀ a0 a1 k, LeO (spec_ConicPoint.f k a0 a1) (spec_ConicPoint.f (k + 1) a0 a1) := by
  intro a0 a1 k
  unfold spec_ConicPoint.f
  repeat' first
      | (with_reducible exact spec_ZeroHeight.mono _ _ _)
      | (with_reducible exact spec_ZeroIs.mono _ _ _)
      | (with_reducible exact spec_l6kPlain.mono _ _)
      | (with_reducible exact LeO.refl _)
      | (with_reducible exact LeO.none _)
      | (with_reducible refine LeO.ite ?_ ?_)
      | (with_reducible refine LeO.bind ?_ (fun _ => ?_))
      | exact spec_ZeroHeight.mono _ _ _
      | exact spec_ZeroIs.mono _ _ _
      | exact spec_l6kPlain.mono _ _
      | exact LeO.none _
      | refine LeO.ite ?_ ?_
      | refine LeO.bind ?_ (fun _ => ?_)
set_option maxHeartbeats 8000000 in
set_option maxRecDepth 100000 in
theorem spec_ConicPoint.calls (k : Nat) (A0 : Option Addr) (c0 : Nat) (l0 : List Int) (A1 : Option Addr) (c1 : Nat) (l1 : List Int) (r : Bool) (w : World) (hr0 : Kd.C (Kd.int .i64) w A0 l0.length l0) (hc0 : l0.length ≤ c0) (hr1 : Kd.C (Kd.int .i64) w A1 l1.length l1) (hc1 : l1.length ≤ c1) (h : spec_ConicPoint.f k l0 l1 = some r) :
    Calls Try.prog 10 #[.slice A0 l0.length c0, .slice A1 l1.length c1] w fun e w' => e = .returned (.bool r) ∧ Below w.heap.size w w' := by
  have HR0 := Aside0.mk hr0; have HC0 := Aside0.mk hc0; clear hr0 hc0; have HR1 := Aside0.mk hr1; have HC1 := Aside0.mk hc1; clear hr1 hc1; have HB := Aside0.mk (Below.refl w.heap.size w); unfold spec_ConicPoint.f at h; have H := h; clear h
  by_cases c3 : (l0.length : Int) = 3
  · rw [if_pos c3] at H
    have c3b0 : ((l0.length : Int) == 3) = true := beq_iff_eq.mpr c3; have c3b1 : ((l0.length : Int) != 3) = false := bne_eq_false_iff_eq.mpr c3; clear c3; obtain ⟨t504, A4, H⟩ := bnd H
    by_cases c5 : t504 = true
    · subst c5
      replace H := ifT H; obtain ⟨t505, A6, H⟩ := bnd H
      by_cases c7 : t505 = true
      · subst c7
        replace H := ifT H; obtain ⟨t506, A8, H⟩ := bnd H; obtain rfl := Option.some.inj H; go_enter Try.func10, Try.ntmps10
        go_wp2_with (first | (go_at_call 34; (with_reducible refine (spec_ZeroIs.calls k _ _ l0 _ _ l1 true _ ?side1 ?side2 ?side3 ?side4 A4.out).mono ?_); (case side1 => exact U HR0.out); (case side2 => exact HC0.out); (case side3 => exact U HR1.out); (case side4 => exact HC1.out); rintro e w' ⟨rfl, ⟨nd, rfl⟩⟩) | (go_at_call 35; (with_reducible refine (spec_l6kPlain.calls k _ _ l1 true _ ?side1 ?side2 A6.out).mono ?_); (case side1 => exact U HR1.out); (case side2 => exact HC1.out); rintro e w9 ⟨rfl, hb⟩; replace HB := BS hb; (try clear hb)) | (go_at_call 36; (with_reducible refine (spec_ZeroHeight.calls k _ _ l0 _ _ l1 t506 _ ?side1 ?side2 ?side3 ?side4 A8.out).mono ?_); (case side1 => exact U (Kd.C_below HR0.out HB.out)); (case side2 => exact HC0.out); (case side3 => exact U (Kd.C_below HR1.out HB.out)); (case side4 => exact HC1.out); rintro e w10 ⟨rfl, hb⟩; replace HB := BS hb; (try clear hb)))
        go_ret
        exact ⟨eR, BU⟩
      replace c7 := Bool.eq_false_iff.mpr c7; subst c7; replace H := ifF H; obtain rfl := Option.some.inj H; go_enter Try.func10, Try.ntmps10
      go_wp2_with (first | (go_at_call 34; (with_reducible refine (spec_ZeroIs.calls k _ _ l0 _ _ l1 true _ ?side1 ?side2 ?side3 ?side4 A4.out).mono ?_); (case side1 => exact U HR0.out); (case side2 => exact HC0.out); (case side3 => exact U HR1.out); (case side4 => exact HC1.out); rintro e w' ⟨rfl, ⟨nd, rfl⟩⟩) | (go_at_call 35; (with_reducible refine (spec_l6kPlain.calls k _ _ l1 false _ ?side1 ?side2 A6.out).mono ?_); (case side1 => exact U HR1.out); (case side2 => exact HC1.out); rintro e w11 ⟨rfl, hb⟩; replace HB := BS hb; (try clear hb)))
      go_ret
      exact ⟨eR, BU⟩
    replace c5 := Bool.eq_false_iff.mpr c5; subst c5; replace H := ifF H; obtain rfl := Option.some.inj H; go_enter Try.func10, Try.ntmps10
    go_wp2_with (first | (go_at_call 34; (with_reducible refine (spec_ZeroIs.calls k _ _ l0 _ _ l1 false _ ?side1 ?side2 ?side3 ?side4 A4.out).mono ?_); (case side1 => exact U HR0.out); (case side2 => exact HC0.out); (case side3 => exact U HR1.out); (case side4 => exact HC1.out); rintro e w' ⟨rfl, ⟨nd, rfl⟩⟩))
    go_ret
    exact ⟨eR, BU⟩
  rw [if_neg c3] at H; have c3b0 : ((l0.length : Int) == 3) = false := beq_eq_false_iff_ne.mpr c3; have c3b1 : ((l0.length : Int) != 3) = true := bne_iff_ne.mpr c3; obtain rfl := Option.some.inj H; go_enter Try.func10, Try.ntmps10
  go_wp2
  go_ret
  exact ⟨eR, BU⟩

/-! ### spec_l6kMultiple: function 45 -/
mutual
def spec_l6kMultiple.l0 : Nat → List Int → List Int → Int → Option (Bool)
  | 0, _, _, _ => none
  | k + 1, x0, x1, x5 => if x5 < (x0.length : Int) then (spec_l6kMultiple.l1 k x0 x1 x5 0) else (some true)
def spec_l6kMultiple.l1 : Nat → List Int → List Int → Int → Int → Option (Bool)
  | 0, _, _, _, _ => none
  | k + 1, x0, x1, x5, x6 => if x6 < x5 then (if 0 ≤ x5 then (if x5 < (x0.length : Int) then (if 0 ≤ x6 then (if x6 < (x1.length : Int) then (if x6 < (x0.length : Int) then (if x5 < (x1.length : Int) then (if (wrap64 ((rd x0 x5) * (rd x1 x6))) = (wrap64 ((rd x0 x6) * (rd x1 x5))) then (spec_l6kMultiple.l1 k x0 x1 x5 (wrap64 (x6 + 1))) else (some false)) else (none)) else (none)) else (none)) else (none)) else (none)) else (none)) else (spec_l6kMultiple.l0 k x0 x1 (wrap64 (x5 + 1)))
end
def spec_l6kMultiple.f (k : Nat) (l0 : List Int) (l1 : List Int) : Option (Bool) := spec_l6kMultiple.l0 k l0 l1 0
theorem spec_l6kMultiple.mono_l : ∀ k, (∀ y0 y1 y2, LeO (spec_l6kMultiple.l0 k y0 y1 y2) (spec_l6kMultiple.l0 (k + 1) y0 y1 y2)) ∧ (∀ y0 y1 y2 y3, LeO (spec_l6kMultiple.l1 k y0 y1 y2 y3) (spec_l6kMultiple.l1 (k + 1) y0 y1 y2 y3))
  | 0 => ⟨fun _ _ _ r h => by simp [spec_l6kMultiple.l0] at h, fun _ _ _ _ r h => by simp [spec_l6kMultiple.l1] at h⟩
  | k + 1 => by
    obtain ⟨ih0, ih1⟩ := spec_l6kMultiple.mono_l k
    refine ⟨?_, ?_⟩ <;> intros <;> (first | unfold spec_l6kMultiple.l0 | unfold spec_l6kMultiple.l1) <;> (repeat' first
      | (with_reducible exact ih0 _ _ _)
      | (with_reducible exact ih1 _ _ _ _)
      | (with_reducible exact LeO.refl _)
      | (with_reducible exact LeO.none _)
      | (with_reducible refine LeO.ite ?_ ?_)
      | (with_reducible refine LeO.bind ?_ (fun _ => ?_))
      | exact ih0 _ _ _
      | exact ih1 _ _ _ _
      | exact LeO.none _
      | refine LeO.ite ?_ ?_
      | refine LeO.bind ?_ (fun _ => ?_))
theorem spec_l6kMultiple.mono : ∀ a0 a1 k, LeO (spec_l6kMultiple.f k a0 a1) (spec_l6kMultiple.f (k + 1) a0 a1) := by
  intro a0 a1 k
  obtain ⟨ih0, ih1⟩ := spec_l6kMultiple.mono_l k
  unfold spec_l6kMultiple.f
  repeat' first
      | (with_reducible exact ih0 _ _ _)
      | (with_reducible exact ih1 _ _ _ _)
      | (with_reducible exact LeO.refl _)
      | (with_reducible exact LeO.none _)
      | (with_reducible refine LeO.ite ?_ ?_)
      | (with_reducible refine LeO.bind ?_ (fun _ => ?_))
      | exact ih0 _ _ _
      | exact ih1 _ _ _ _
      | exact LeO.none _
      | refine LeO.ite ?_ ?_
      | refine LeO.bind ?_ (fun _ => ?_)
set_option maxHeartbeats 8000000 in
set_option maxRecDepth 100000 in
theorem spec_l6kMultiple.calls (k : Nat) (A0 : Option Addr) (c0 : Nat) (l0 : List Int) (A1 : Option Addr) (c1 : Nat) (l1 : List Int) (r : Bool) (w : World) (hr0 : Kd.C (Kd.int .i64) w A0 l0.length l0) (hc0 : l0.length ≤ c0) (hr1 : Kd.C (Kd.int .i64) w A1 l1.length l1) (hc1 : l1.length ≤ c1) (h : spec_l6kMultiple.f k l0 l1 = some r) :
    Calls Try.prog 45 #[.slice A0 l0.length c0, .slice A1 l1.length c1] w fun e w' => e = .returned (.bool r) ∧ Drawn0 w w' := by
  have HR0 := Aside0.mk hr0; have HC0 := Aside0.mk hc0; clear hr0 hc0; have HR1 := Aside0.mk hr1; have HC1 := Aside0.mk hc1; clear hr1 hc1; unfold spec_l6kMultiple.f at h; have H := h; clear h; have H' := Aside0.mk H; clear H; go_enter Try.func45, Try.ntmps45
  go_wp2
  repeat (go_quiet (fail); try go_wp2)
  go_loopg [5] k (fun kq v5 w' => ∃ (x5_1 : Int), v5 = .int .i64 x5_1 ∧ Aside0 (spec_l6kMultiple.l0 kq l0 l1 x5_1 = some r) ∧ Aside0 (kq ≤ k) ∧ Drawn0 w w')
  case atStart => exact ⟨(0), sR, H', ⟨Nat.le_refl _⟩, by repeat (first | exact Drawn0.refl _ | apply Drawn0.step)⟩
  case round =>
    clear H'; obtain ⟨x5_1, rfl, HA, HK1, ⟨m1, rfl⟩⟩ := hrel; cases gk with
    | zero => exact absurd HA.out (by simp [spec_l6kMultiple.l0])
    | succ k1 =>
      have H := HA.out; clear HA; simp only [spec_l6kMultiple.l0] at H
      by_cases c3 : x5_1 < (l0.length : Int)
      · rw [if_pos c3] at H
        have c3b0 : decide (x5_1 < (l0.length : Int)) = true := decide_eq_true c3; clear c3; have H' := Aside0.mk H; clear H
        go_wp2
        repeat (go_quiet (fail); try go_wp2)
        go_loopg [6] k1 (fun kq v6 w' => ∃ (x6_2 : Int), v6 = .int .i64 x6_2 ∧ Aside0 (spec_l6kMultiple.l1 kq l0 l1 x5_1 x6_2 = some r) ∧ Aside0 (kq ≤ k1) ∧ Drawn0 w w')
        case atStart => exact ⟨(0), sR, H', ⟨Nat.le_refl _⟩, by repeat (first | exact Drawn0.refl _ | apply Drawn0.step)⟩
        case round =>
          clear H'; (try clear c3); (try clear c3b0); obtain ⟨x6_2, rfl, HA, HK2, ⟨m2, rfl⟩⟩ := hrel; cases gk with
          | zero => exact absurd HA.out (by simp [spec_l6kMultiple.l1])
          | succ k2 =>
            have H := HA.out; clear HA; simp only [spec_l6kMultiple.l1] at H
            by_cases c4 : x6_2 < x5_1
            · rw [if_pos c4] at H
              have c4b0 : decide (x6_2 < x5_1) = true := decide_eq_true c4; clear c4; obtain ⟨c5, H⟩ := ifN H; have c5b0 : decide (0 ≤ x5_1) = true := decide_eq_true c5; clear c5; obtain ⟨c6, H⟩ := ifN H; have c6b0 : decide (x5_1 < (l0.length : Int)) = true := decide_eq_true c6; clear c6; obtain ⟨c7, H⟩ := ifN H; have c7b0 : decide (0 ≤ x6_2) = true := decide_eq_true c7; clear c7; obtain ⟨c8, H⟩ := ifN H; have c8b0 : decide (x6_2 < (l1.length : Int)) = true := decide_eq_true c8; clear c8; obtain ⟨c9, H⟩ := ifN H; have c9b0 : decide (x6_2 < (l0.length : Int)) = true := decide_eq_true c9; clear c9; obtain ⟨c10, H⟩ := ifN H; have c10b0 : decide (x5_1 < (l1.length : Int)) = true := decide_eq_true c10; clear c10
              by_cases c11 : (wrap64 ((rd l0 x5_1) * (rd l1 x6_2))) = (wrap64 ((rd l0 x6_2) * (rd l1 x5_1)))
              · rw [if_pos c11] at H
                have c11b0 : ((wrap64 ((rd l0 x5_1) * (rd l1 x6_2))) == (wrap64 ((rd l0 x6_2) * (rd l1 x5_1)))) = true := beq_iff_eq.mpr c11; have c11b1 : ((wrap64 ((rd l0 x5_1) * (rd l1 x6_2))) != (wrap64 ((rd l0 x6_2) * (rd l1 x5_1)))) = false := bne_eq_false_iff_eq.mpr c11; clear c11; have H' := Aside0.mk H; clear H; have p507 : 0 ≤ (x5_1 : Int) := oD; have q507 : x5_1 < (l0.length : Int) := oD; obtain ⟨ad507, e507, hx507_0⟩ := Kd.at_int HR0.out x5_1 p507 q507; cases e507; replace p507 := eq_true p507; replace q507 := eq_true q507; have p508 : 0 ≤ (x6_2 : Int) := oD; have q508 : x6_2 < (l1.length : Int) := oD; obtain ⟨ad508, e508, hx508_0⟩ := Kd.at_int HR1.out x6_2 p508 q508; cases e508; replace p508 := eq_true p508; replace q508 := eq_true q508; have p509 : 0 ≤ (x6_2 : Int) := oD; have q509 : x6_2 < (l0.length : Int) := oD; obtain ⟨ad509, e509, hx509_0⟩ := Kd.at_int HR0.out x6_2 p509 q509; obtain rfl : ad507 = ad509 := (by injection e509); replace p509 := eq_true p509; replace q509 := eq_true q509; have p510 : 0 ≤ (x5_1 : Int) := oD; have q510 : x5_1 < (l1.length : Int) := oD; obtain ⟨ad510, e510, hx510_0⟩ := Kd.at_int HR1.out x5_1 p510 q510; obtain rfl : ad508 = ad510 := (by injection e510); replace p510 := eq_true p510; replace q510 := eq_true q510
                go_wp2
                repeat (go_quiet (fail); try go_wp2)
                go_roundg k2
                case measure => have := HK1.out; have := HK2.out; omega
                case rel => exact ⟨(wrap64 (x6_2 + 1)), sR, H', ⟨by have := HK1.out; have := HK2.out; omega⟩, by repeat (first | exact Drawn0.refl _ | apply Drawn0.step)⟩
              rw [if_neg c11] at H; have c11b0 : ((wrap64 ((rd l0 x5_1) * (rd l1 x6_2))) == (wrap64 ((rd l0 x6_2) * (rd l1 x5_1)))) = false := beq_eq_false_iff_ne.mpr c11; have c11b1 : ((wrap64 ((rd l0 x5_1) * (rd l1 x6_2))) != (wrap64 ((rd l0 x6_2) * (rd l1 x5_1)))) = true := bne_iff_ne.mpr c11; obtain rfl := Option.some.inj H; have p507 : 0 ≤ (x5_1 : Int) := oD; have q507 : x5_1 < (l0.length : Int) := oD; obtain ⟨ad507, e507, hx507_0⟩ := Kd.at_int HR0.out x5_1 p507 q507; cases e507; replace p507 := eq_true p507; replace q507 := eq_true q507; have p508 : 0 ≤ (x6_2 : Int) := oD; have q508 : x6_2 < (l1.length : Int) := oD; obtain ⟨ad508, e508, hx508_0⟩ := Kd.at_int HR1.out x6_2 p508 q508; cases e508; replace p508 := eq_true p508; replace q508 := eq_true q508; have p509 : 0 ≤ (x6_2 : Int) := oD; have q509 : x6_2 < (l0.length : Int) := oD; obtain ⟨ad509, e509, hx509_0⟩ := Kd.at_int HR0.out x6_2 p509 q509; obtain rfl : ad507 = ad509 := (by injection e509); replace p509 := eq_true p509; replace q509 := eq_true q509; have p510 : 0 ≤ (x5_1 : Int) := oD; have q510 : x5_1 < (l1.length : Int) := oD; obtain ⟨ad510, e510, hx510_0⟩ := Kd.at_int HR1.out x5_1 p510 q510; obtain rfl : ad508 = ad510 := (by injection e510); replace p510 := eq_true p510; replace q510 := eq_true q510
              go_wp2
              repeat (go_quiet (fail); try go_wp2)
              go_ret
              exact ⟨by first | rfl | (simp; done) | (simp [*]; done), by repeat (first | exact Drawn0.refl _ | apply Drawn0.step)⟩
            rw [if_neg c4] at H; have c4b0 : decide (x6_2 < x5_1) = false := decide_eq_false c4; clear c4; have H' := Aside0.mk H; clear H
            go_wp2
            repeat (go_quiet (fail); try go_wp2)
            go_roundg k2
            case measure => have := HK1.out; have := HK2.out; omega
            case rel => exact ⟨(wrap64 (x5_1 + 1)), sR, H', ⟨by have := HK1.out; have := HK2.out; omega⟩, by repeat (first | exact Drawn0.refl _ | apply Drawn0.step)⟩
      rw [if_neg c3] at H; have c3b0 : decide (x5_1 < (l0.length : Int)) = false := decide_eq_false c3; clear c3; obtain rfl := Option.some.inj H
      go_wp2
      repeat (go_quiet (fail); try go_wp2)
      go_ret
      exact ⟨by first | rfl | (simp; done) | (simp [*]; done), by repeat (first | exact Drawn0.refl _ | apply Drawn0.step)⟩

/-! ### spec_l5Pair: function 47 -/
def spec_l5Pair.l0 : Nat → List Int → List Int → List Int → Int → Int → Option (Int)
  | 0, _, _, _, _, _ => none
  | k + 1, x0, x1, x2, x7, x8 => if x8 < (x0.length : Int) then (if 0 ≤ x8 then (if x8 < (x1.length : Int) then (if x8 < (x2.length : Int) then (spec_l5Pair.l0 k x0 x1 x2 (wrap64 (x7 + (wrap64 ((wrap64 ((rd x0 x8) * (rd x1 x8))) * (rd x2 x8))))) (wrap64 (x8 + 1))) else (none)) else (none)) else (none)) else (some x7)
def spec_l5Pair.f (k : Nat) (l0 : List Int) (l1 : List Int) (l2 : List Int) : Option (Int) := spec_l5Pair.l0 k l0 l1 l2 0 0
theorem spec_l5Pair.mono_l : ∀ k, (∀ y0 y1 y2 y3 y4, LeO (spec_l5Pair.l0 k y0 y1 y2 y3 y4) (spec_l5Pair.l0 (k + 1) y0 y1 y2 y3 y4))
  | 0 => fun _ _ _ _ _ r h => by simp [spec_l5Pair.l0] at h
  | k + 1 => by
    have ih0 := spec_l5Pair.mono_l k
    · intro y0 y1 y2 y3 y4
      unfold spec_l5Pair.l0
      repeat' first
      | (with_reducible exact ih0 _ _ _ _ _)
      | (with_reducible exact LeO.refl _)
      | (with_reducible exact LeO.none _)
      | (with_reducible refine LeO.ite ?_ ?_)
      | (with_reducible refine LeO.bind ?_ (fun _ => ?_))
      | exact ih0 _ _ _ _ _
      | exact LeO.none _
      | refine LeO.ite ?_ ?_
      | refine LeO.bind ?_ (fun _ => ?_)
theorem spec_l5Pair.mono : ∀ a0 a1 a2 k, LeO (spec_l5Pair.f k a0 a1 a2) (spec_l5Pair.f (k + 1) a0 a1 a2) := by
  intro a0 a1 a2 k
  have ih0 := spec_l5Pair.mono_l k
  unfold spec_l5Pair.f
  repeat' first
      | (with_reducible exact ih0 _ _ _ _ _)
      | (with_reducible exact LeO.refl _)
      | (with_reducible exact LeO.none _)
      | (with_reducible refine LeO.ite ?_ ?_)
      | (with_reducible refine LeO.bind ?_ (fun _ => ?_))
      | exact ih0 _ _ _ _ _
      | exact LeO.none _
      | refine LeO.ite ?_ ?_
      | refine LeO.bind ?_ (fun _ => ?_)
set_option maxHeartbeats 8000000 in
set_option maxRecDepth 100000 in
theorem spec_l5Pair.calls (k : Nat) (A0 : Option Addr) (c0 : Nat) (l0 : List Int) (A1 : Option Addr) (c1 : Nat) (l1 : List Int) (A2 : Option Addr) (c2 : Nat) (l2 : List Int) (r : Int) (w : World) (hr0 : Kd.C (Kd.int .i64) w A0 l0.length l0) (hc0 : l0.length ≤ c0) (hr1 : Kd.C (Kd.int .i64) w A1 l1.length l1) (hc1 : l1.length ≤ c1) (hr2 : Kd.C (Kd.int .i64) w A2 l2.length l2) (hc2 : l2.length ≤ c2) (h : spec_l5Pair.f k l0 l1 l2 = some r) :
    Calls Try.prog 47 #[.slice A0 l0.length c0, .slice A1 l1.length c1, .slice A2 l2.length c2] w fun e w' => e = .returned (.int .i64 r) ∧ Drawn0 w w' := by
  have HR0 := Aside0.mk hr0; have HC0 := Aside0.mk hc0; clear hr0 hc0; have HR1 := Aside0.mk hr1; have HC1 := Aside0.mk hc1; clear hr1 hc1; have HR2 := Aside0.mk hr2; have HC2 := Aside0.mk hc2; clear hr2 hc2; unfold spec_l5Pair.f at h; have H := h; clear h; have H' := Aside0.mk H; clear H; go_enter Try.func47, Try.ntmps47
  go_wp2
  repeat (go_quiet (fail); try go_wp2)
  go_loopg [7, 8] k (fun kq v7 v8 w' => ∃ (x7_1 : Int) (x8_1 : Int), v7 = .int .i64 x7_1 ∧ v8 = .int .i64 x8_1 ∧ Aside0 (spec_l5Pair.l0 kq l0 l1 l2 x7_1 x8_1 = some r) ∧ Aside0 (kq ≤ k) ∧ Drawn0 w w')
  case atStart => exact ⟨(0), (0), sR, sR, H', ⟨Nat.le_refl _⟩, by repeat (first | exact Drawn0.refl _ | apply Drawn0.step)⟩
  case round =>
    clear H'; obtain ⟨x7_1, x8_1, rfl, rfl, HA, HK1, ⟨m1, rfl⟩⟩ := hrel; cases gk with
    | zero => exact absurd HA.out (by simp [spec_l5Pair.l0])
    | succ k1 =>
      have H := HA.out; clear HA; simp only [spec_l5Pair.l0] at H
      by_cases c4 : x8_1 < (l0.length : Int)
      · rw [if_pos c4] at H
        have c4b0 : decide (x8_1 < (l0.length : Int)) = true := decide_eq_true c4; clear c4; obtain ⟨c5, H⟩ := ifN H; have c5b0 : decide (0 ≤ x8_1) = true := decide_eq_true c5; clear c5; obtain ⟨c6, H⟩ := ifN H; have c6b0 : decide (x8_1 < (l1.length : Int)) = true := decide_eq_true c6; clear c6; obtain ⟨c7, H⟩ := ifN H; have c7b0 : decide (x8_1 < (l2.length : Int)) = true := decide_eq_true c7; clear c7; have H' := Aside0.mk H; clear H; have p511 : 0 ≤ (x8_1 : Int) := oD; have q511 : x8_1 < (l0.length : Int) := oD; obtain ⟨ad511, e511, hx511_0⟩ := Kd.at_int HR0.out x8_1 p511 q511; cases e511; replace p511 := eq_true p511; replace q511 := eq_true q511; have p512 : 0 ≤ (x8_1 : Int) := oD; have q512 : x8_1 < (l1.length : Int) := oD; obtain ⟨ad512, e512, hx512_0⟩ := Kd.at_int HR1.out x8_1 p512 q512; cases e512; replace p512 := eq_true p512; replace q512 := eq_true q512; have p513 : 0 ≤ (x8_1 : Int) := oD; have q513 : x8_1 < (l2.length : Int) := oD; obtain ⟨ad513, e513, hx513_0⟩ := Kd.at_int HR2.out x8_1 p513 q513; cases e513; replace p513 := eq_true p513; replace q513 := eq_true q513
        go_wp2
        repeat (go_quiet (fail); try go_wp2)
        go_roundg k1
        case measure => have := HK1.out; omega
        case rel => exact ⟨(wrap64 (x7_1 + (wrap64 ((wrap64 ((rd l0 x8_1) * (rd l1 x8_1))) * (rd l2 x8_1))))), (wrap64 (x8_1 + 1)), sR, sR, H', ⟨by have := HK1.out; omega⟩, by repeat (first | exact Drawn0.refl _ | apply Drawn0.step)⟩
      rw [if_neg c4] at H; have c4b0 : decide (x8_1 < (l0.length : Int)) = false := decide_eq_false c4; clear c4; obtain rfl := Option.some.inj H
      go_wp2
      repeat (go_quiet (fail); try go_wp2)
      go_ret
      exact ⟨by first | rfl | (simp; done) | (simp [*]; done), by repeat (first | exact Drawn0.refl _ | apply Drawn0.step)⟩

end Go.Proofs.Ytpaohkhmhdhibaa.PFnAt
