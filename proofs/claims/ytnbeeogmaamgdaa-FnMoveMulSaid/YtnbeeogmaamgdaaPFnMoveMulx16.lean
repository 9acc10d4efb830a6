-- Written by a program of this session (wip/print2.py): the functions that the law reaches, plain, and the walks.
import Derived.Test.YtnbeeogmaamgdaaPFnMoveMulx0
import Derived.Test.YtnbeeogmaamgdaaPFnMoveMulx1
import Derived.Test.YtnbeeogmaamgdaaPFnMoveMulx5
import Derived.Test.YtnbeeogmaamgdaaPFnMoveMulx6
import Derived.Test.YtnbeeogmaamgdaaPFnMoveMulx7
import Derived.Test.YtnbeeogmaamgdaaPFnMoveMulx12
import Derived.Test.YtnbeeogmaamgdaaPFnMoveMulx15
namespace Go.Proofs.Ytnbeeogmaamgdaa.PFnMoveMul
open Go.RowKit Go.Proofs.YtnbeeogmaamgdaaW.PrintWords Go.Proofs.YtnbeeogmaamgdaaW.PrintLast Go.Proofs.YtnbeeogmaamgdaaW.PrintMore
attribute [local go_sem] max2_int min2_int max_two min_two max_three min_three max_four min_four   -- for this text's walks alone
set_option linter.unusedVariables false
set_option linter.unusedSimpArgs false

/-! ### laws_FnMoveMul: function 7 -/
mutual
def laws_FnMoveMul.j0 : Nat → List Int → List Int → Bool → Option (Bool)
  | 0, _, _, _ => none
  | k + 1, x0, x1, x30 => if x30 = true then (some true) else ((spec_DrawMoveMul.f k x0).bind fun bt493 => ((impl_MoveMul.f k bt493.1 bt493.2.1 bt493.2.2.1 bt493.2.2.2.1 bt493.2.2.2.2).bind fun bt506 => ((spec_MoveMul.f k bt493.1 bt493.2.1 bt493.2.2.1 bt493.2.2.2.1 bt493.2.2.2.2).bind fun bt512 => (if (bt506.2.2 != bt512.2.2) = true then (laws_FnMoveMul.j1 k x1 bt493.1 bt506.2.2 bt512.2.2 true bt493.2.1 bt493.2.2.1 bt493.2.2.2.1 bt493.2.2.2.2 bt506.1 bt506.2.1 bt512.1 bt512.2.1) else ((laws_sameMove.f k bt506.1 bt506.2.1 bt512.1 bt512.2.1).bind fun t518 => (if t518 = true then (laws_FnMoveMul.j1 k x1 bt493.1 bt506.2.2 bt512.2.2 (!bt506.2.2) bt493.2.1 bt493.2.2.1 bt493.2.2.2.1 bt493.2.2.2.2 bt506.1 bt506.2.1 bt512.1 bt512.2.1) else (laws_FnMoveMul.j1 k x1 bt493.1 bt506.2.2 bt512.2.2 true bt493.2.1 bt493.2.2.1 bt493.2.2.2.1 bt493.2.2.2.2 bt506.1 bt506.2.1 bt512.1 bt512.2.1)))))))
def laws_FnMoveMul.j1 : Nat → List Int → List Int → Bool → Bool → Bool → List (List Int) → Int → List (List Int) → Int → List (List Int) → Int → List (List Int) → Int → Option (Bool)
  | 0, _, _, _, _, _, _, _, _, _, _, _, _, _ => none
  | k + 1, x1, x5, x9, x11, x63, x505000, x505001, x506000, x506001, x512000, x512001, x518000, x518001 => if x63 = true then (if (x9 == x11) = true then ((laws_sameMove.f k x512000 x512001 x518000 x518001).bind fun t519 => (some t519)) else (none)) else (if 0 ≤ (x5.length : Int) then (if ((x5.length : Int) : Int).toNat ≤ 35184372088832 then (laws_FnMoveMul.l0 k x1 x5 (List.replicate ((x5.length : Int) : Int).toNat 0) 0 x505000 x505001 x506000 x506001 x512000 x512001) else (none)) else (none))
def laws_FnMoveMul.l0 : Nat → List Int → List Int → List Int → Int → List (List Int) → Int → List (List Int) → Int → List (List Int) → Int → Option (Bool)
  | 0, _, _, _, _, _, _, _, _, _, _ => none
  | k + 1, x1, x5, x12, x13, x505000, x505001, x506000, x506001, x512000, x512001 => if x13 < (x12.length : Int) then (if 0 ≤ x13 then (laws_FnMoveMul.l0 k x1 x5 (x12.set (x13 : Int).toNat (wrap64 (1 + (Int.tmod (wrap64 ((x1.length : Int) + x13)) 5)))) (wrap64 (x13 + 1)) x505000 x505001 x506000 x506001 x512000 x512001) else (none)) else ((impl_MoveOn.f k x5 x506000 x506001 x12).bind fun bt524 => ((impl_MoveOn.f k x5 x512000 x512001 x12).bind fun bt529 => ((impl_MoveOn.f k x5 x505000 x505001 bt524.1).bind fun bt534 => (if bt524.2.2 = true then (if bt529.2.2 = true then ((impl_MoveSign.f k x5 x512000 x512001).bind fun t539 => ((impl_MoveSign.f k x5 x505000 x505001).bind fun t540 => ((impl_MoveSign.f k x5 x506000 x506001).bind fun t541 => (if t539 = (wrap64 (t540 * t541)) then (if bt524.2.1 = 1 then (if bt534.2.2 = true then (if bt529.2.1 = bt534.2.1 then ((laws_sameInts.f k bt529.1 bt534.1).bind fun t542 => (some t542)) else (none)) else (some true)) else (some true)) else (none))))) else (none)) else (none)))))
end
def laws_FnMoveMul.f (k : Nat) (l0 : List Int) (l1 : List Int) : Option (Bool) := if (l0.length : Int) > 1048576 then (laws_FnMoveMul.j0 k l0 l1 true) else (laws_FnMoveMul.j0 k l0 l1 (decide ((l1.length : Int) > 1048576)))
theorem laws_FnMoveMul.mono_l : ∀ k, (∀ y0 y1 y2, LeO (laws_FnMoveMul.j0 k y0 y1 y2) (laws_FnMoveMul.j0 (k + 1) y0 y1 y2)) ∧ (∀ y0 y1 y2 y3 y4 y5 y6 y7 y8 y9 y10 y11 y12, LeO (laws_FnMoveMul.j1 k y0 y1 y2 y3 y4 y5 y6 y7 y8 y9 y10 y11 y12) (laws_FnMoveMul.j1 (k + 1) y0 y1 y2 y3 y4 y5 y6 y7 y8 y9 y10 y11 y12)) ∧ (∀ y0 y1 y2 y3 y4 y5 y6 y7 y8 y9, LeO (laws_FnMoveMul.l0 k y0 y1 y2 y3 y4 y5 y6 y7 y8 y9) (laws_FnMoveMul.l0 (k + 1) y0 y1 y2 y3 y4 y5 y6 y7 y8 y9))
  | 0 => ⟨fun _ _ _ r h => by simp [laws_FnMoveMul.j0] at h, fun _ _ _ _ _ _ _ _ _ _ _ _ _ r h => by simp [laws_FnMoveMul.j1] at h, fun _ _ _ _ _ _ _ _ _ _ r h => by simp [laws_FnMoveMul.l0] at h⟩
  | k + 1 => by
    obtain ⟨ih0, ih1, ih2⟩ := laws_FnMoveMul.mono_l k
    refine ⟨?_, ?_, ?_⟩ <;> intros <;> (first | unfold laws_FnMoveMul.j0 | unfold laws_FnMoveMul.j1 | unfold laws_FnMoveMul.l0) <;> (repeat' first
      | (with_reducible exact ih0 _ _ _)
      | (with_reducible exact ih1 _ _ _ _ _ _ _ _ _ _ _ _ _)
      | (with_reducible exact ih2 _ _ _ _ _ _ _ _ _ _)
      | (with_reducible exact impl_MoveMul.mono _ _ _ _ _ _)
      | (with_reducible exact impl_MoveOn.mono _ _ _ _ _)
      | (with_reducible exact impl_MoveSign.mono _ _ _ _)
      | (with_reducible exact laws_sameInts.mono _ _ _)
      | (with_reducible exact laws_sameMove.mono _ _ _ _ _)
      | (with_reducible exact spec_DrawMoveMul.mono _ _)
      | (with_reducible exact spec_MoveMul.mono _ _ _ _ _ _)
      | (with_reducible exact LeO.refl _)
      | (with_reducible exact LeO.none _)
      | (with_reducible refine LeO.ite ?_ ?_)
      | (with_reducible refine LeO.bind ?_ (fun _ => ?_))
      | exact ih0 _ _ _
      | exact ih1 _ _ _ _ _ _ _ _ _ _ _ _ _
      | exact ih2 _ _ _ _ _ _ _ _ _ _
      | exact impl_MoveMul.mono _ _ _ _ _ _
      | exact impl_MoveOn.mono _ _ _ _ _
      | exact impl_MoveSign.mono _ _ _ _
      | exact laws_sameInts.mono _ _ _
      | exact laws_sameMove.mono _ _ _ _ _
      | exact spec_DrawMoveMul.mono _ _
      | exact spec_MoveMul.mono _ _ _ _ _ _
      | exact LeO.none _
      | refine LeO.ite ?_ ?_
      | refine LeO.bind ?_ (fun _ => ?_))
theorem laws_FnMoveMul.mono : ∀ a0 a1 k, LeO (laws_FnMoveMul.f k a0 a1) (laws_FnMoveMul.f (k + 1) a0 a1) := by
  intro a0 a1 k
  obtain ⟨ih0, ih1, ih2⟩ := laws_FnMoveMul.mono_l k
  unfold laws_FnMoveMul.f
  repeat' first
      | (with_reducible exact ih0 _ _ _)
      | (with_reducible exact ih1 _ _ _ _ _ _ _ _ _ _ _ _ _)
      | (with_reducible exact ih2 _ _ _ _ _ _ _ _ _ _)
      | (with_reducible exact impl_MoveMul.mono _ _ _ _ _ _)
      | (with_reducible exact impl_MoveOn.mono _ _ _ _ _)
      | (with_reducible exact impl_MoveSign.mono _ _ _ _)
      | (with_reducible exact laws_sameInts.mono _ _ _)
      | (with_reducible exact laws_sameMove.mono _ _ _ _ _)
      | (with_reducible exact spec_DrawMoveMul.mono _ _)
      | (with_reducible exact spec_MoveMul.mono _ _ _ _ _ _)
      | (with_reducible exact LeO.refl _)
      | (with_reducible exact LeO.none _)
      | (with_reducible refine LeO.ite ?_ ?_)
      | (with_reducible refine LeO.bind ?_ (fun _ => ?_))
      | exact ih0 _ _ _
      | exact ih1 _ _ _ _ _ _ _ _ _ _ _ _ _
      | exact ih2 _ _ _ _ _ _ _ _ _ _
      | exact impl_MoveMul.mono _ _ _ _ _ _
      | exact impl_MoveOn.mono _ _ _ _ _
      | exact impl_MoveSign.mono _ _ _ _
      | exact laws_sameInts.mono _ _ _
      | exact laws_sameMove.mono _ _ _ _ _
      | exact spec_DrawMoveMul.mono _ _
      | exact spec_MoveMul.mono _ _ _ _ _ _
      | exact LeO.none _
      | refine LeO.ite ?_ ?_
      | refine LeO.bind ?_ (fun _ => ?_)
def laws_FnMoveMul.T16 : Bool × List (List Nat × List Nat) := (true, [([], []), ([0], [0]), ([1], [1]), ([1, 2], [1, 2]), ([3, 1], [3]), ([4], [4]), ([4], [4]), ([5, 6, 4, 4], [4, 5, 6]), ([4], [4]), ([4], [4]), ([8, 9, 7, 4], [4, 8, 9]), ([4], [4]), ([4], [4]), ([11, 12, 10, 4], [4, 11, 12]), ([10, 13, 4], [4, 10, 13]), ([7, 14, 4], [4, 7, 14]), ([4, 15], [4, 15]), ([16, 13], [16]), ([17], [17]), ([18, 17], [17, 18]), ([19, 17, 17], [17, 19]), ([20], [20]), ([21, 20], [20, 21]), ([20, 22, 17], [17, 20, 22]), ([23, 20, 17], [17, 23]), ([24], [24]), ([24], [24]), ([25, 26, 24], [24, 25, 26]), ([27, 24, 24], [24, 27]), ([28], [28]), ([28], [28]), ([29, 30, 28, 28], [28, 29, 30]), ([28, 31, 24], [24, 28, 31]), ([24, 32, 17], [17, 24, 32]), ([17, 33], [17, 33]), ([34, 31, 0, 1, 2, 3, 4, 5, 6, 7, 8, 9, 10, 11, 12, 13, 14, 15, 16, 17, 18, 19, 20, 21, 22, 23, 24, 25, 26, 27, 28, 29, 30, 31, 32, 33, 34], [34])])
def laws_FnMoveMul.B16 : List Nat := [0, 1, 3, 7, 15, 31, 31, 127, 31, 31, 1023, 31, 31, 8191, 16383, 32767, 65535, 131071, 262143, 524287, 1048575, 2097151, 4194303, 8388607, 16777215, 33554431, 33554431, 134217727, 268435455, 536870911, 536870911, 2147483647, 4294967295, 8589934591, 17179869183, 34359738367]
theorem laws_FnMoveMul.tab16 : rtab .any (opsOf Try.f7 16) = laws_FnMoveMul.T16 := by kernel_rfl
theorem laws_FnMoveMul.bits16 : waitsOk laws_FnMoveMul.T16.2 laws_FnMoveMul.B16 = true := by kernel_rfl
set_option maxHeartbeats 8000000 in
set_option maxRecDepth 100000 in
theorem laws_FnMoveMul.calls (k : Nat) (A0 : Option Addr) (c0 : Nat) (l0 : List Int) (A1 : Option Addr) (c1 : Nat) (l1 : List Int) (r : Bool) (w : World) (hr0 : Kd.C (Kd.int .u8) w A0 l0.length l0) (hc0 : l0.length ≤ c0) (hr1 : Kd.C (Kd.int .u8) w A1 l1.length l1) (hc1 : l1.length ≤ c1) (h : laws_FnMoveMul.f k l0 l1 = some r) :
    Calls Try.prog 7 #[.slice A0 l0.length c0, .slice A1 l1.length c1] w fun e w' => e = .returned (.bool r) ∧ Below w.heap.size w w' := by
  have hu27 := Try.underlying27; have HR0 := Aside0.mk hr0; have HC0 := Aside0.mk hc0; clear hr0 hc0; have HR1 := Aside0.mk hr1; have HC1 := Aside0.mk hc1; clear hr1 hc1; have HB := Aside0.mk (Below.refl w.heap.size w); unfold laws_FnMoveMul.f at h; have H := h; clear h; have HC3 := Aside0.mk H; clear H; go_enter Try.func7, Try.ntmps7
  go_upto_region 1 with (fail)
  go_cut [30] (fun v30 wc => ∃ (kq : Nat) (x30_2 : Bool), v30 = .bool x30_2 ∧ Aside0 (laws_FnMoveMul.j0 kq l0 l1 x30_2 = some r) ∧ Aside0 (kq ≤ k) ∧ Aside0 (Below w.heap.size w wc))
  case first =>
    have H := HC3.out; clear HC3
    by_cases c4 : (l0.length : Int) > 1048576
    · rw [if_pos c4] at H
      have c4b0 : decide (1048576 < (l0.length : Int)) = true := decide_eq_true c4; have c4b1 : decide (1048576 < l0.length) = true := decide_eq_true (by omega); clear c4
      (first | rw [c4b0] | (simp only [i64_w, i32_w]; rw [c4b0]) | skip)
      have H' := Aside0.mk H; clear H
      go_wp2
      go_meet
      case rel => exact ⟨_, (true), sR, H', ⟨oR⟩, ⟨BU⟩⟩
    · rw [if_neg c4] at H
      have c4b0 : decide (1048576 < (l0.length : Int)) = false := decide_eq_false c4; have c4b1 : decide (1048576 < l0.length) = false := decide_eq_false (by omega); clear c4
      (first | rw [c4b0] | (simp only [i64_w, i32_w]; rw [c4b0]) | skip)
      have H' := Aside0.mk H; clear H
      go_wp2
      go_meet
      case rel => exact ⟨_, (decide ((l1.length : Int) > 1048576)), sR, H', ⟨oR⟩, ⟨BU⟩⟩
  case rest =>
    clear HC3; obtain ⟨kq, x30_2, rfl, HA, HJ2, HB⟩ := hcut; cases kq with
    | zero => exact absurd HA.out (by simp [laws_FnMoveMul.j0])
    | succ kj2 =>
      have H := HA.out; clear HA; simp only [laws_FnMoveMul.j0] at H
      by_cases c5 : x30_2 = true
      · subst c5
        replace H := ifT H; obtain rfl := Option.some.inj H
        go_wp2
        go_ret
        exact ⟨eR, BU⟩
      · replace c5 := Bool.eq_false_iff.mpr c5
        subst c5; replace H := ifF H; obtain ⟨⟨t493, t496, t499, t500, t503⟩, A6, H⟩ := bnd H
        replace H : ((impl_MoveMul.f kj2 t493 t496 t499 t500 t503).bind fun bt506 => ((spec_MoveMul.f kj2 t493 t496 t499 t500 t503).bind fun bt512 => (if (bt506.2.2 != bt512.2.2) = true then (laws_FnMoveMul.j1 kj2 l1 t493 bt506.2.2 bt512.2.2 true t496 t499 t500 t503 bt506.1 bt506.2.1 bt512.1 bt512.2.1) else ((laws_sameMove.f kj2 bt506.1 bt506.2.1 bt512.1 bt512.2.1).bind fun t518 => (if t518 = true then (laws_FnMoveMul.j1 kj2 l1 t493 bt506.2.2 bt512.2.2 (!bt506.2.2) t496 t499 t500 t503 bt506.1 bt506.2.1 bt512.1 bt512.2.1) else (laws_FnMoveMul.j1 kj2 l1 t493 bt506.2.2 bt512.2.2 true t496 t499 t500 t503 bt506.1 bt506.2.1 bt512.1 bt512.2.1)))))) = some r := H
        obtain ⟨⟨t506, t509, t510⟩, A7, H⟩ := bnd H
        replace H : ((spec_MoveMul.f kj2 t493 t496 t499 t500 t503).bind fun bt512 => (if (t510 != bt512.2.2) = true then (laws_FnMoveMul.j1 kj2 l1 t493 t510 bt512.2.2 true t496 t499 t500 t503 t506 t509 bt512.1 bt512.2.1) else ((laws_sameMove.f kj2 t506 t509 bt512.1 bt512.2.1).bind fun t518 => (if t518 = true then (laws_FnMoveMul.j1 kj2 l1 t493 t510 bt512.2.2 (!t510) t496 t499 t500 t503 t506 t509 bt512.1 bt512.2.1) else (laws_FnMoveMul.j1 kj2 l1 t493 t510 bt512.2.2 true t496 t499 t500 t503 t506 t509 bt512.1 bt512.2.1))))) = some r := H
        obtain ⟨⟨t512, t515, t516⟩, A8, H⟩ := bnd H; replace H : (if (t510 != t516) = true then (laws_FnMoveMul.j1 kj2 l1 t493 t510 t516 true t496 t499 t500 t503 t506 t509 t512 t515) else ((laws_sameMove.f kj2 t506 t509 t512 t515).bind fun t518 => (if t518 = true then (laws_FnMoveMul.j1 kj2 l1 t493 t510 t516 (!t510) t496 t499 t500 t503 t506 t509 t512 t515) else (laws_FnMoveMul.j1 kj2 l1 t493 t510 t516 true t496 t499 t500 t503 t506 t509 t512 t515)))) = some r := H; have HC9 := Aside0.mk H; clear H
        go_upto_region 6 with (first | ((with_reducible refine gate_callee (f := 36) rfl ?_); refine goesK (some 33) Try.func36 #[.slice A0 l0.length c0] ?_; (with_reducible refine (spec_DrawMoveMul.calls kj2 _ _ l0 t493 t496 t499 t500 t503 _ ?side1 ?side2 A6.out).mono ?_); (case side1 => exact U (Kd.C_below HR0.out HB.out)); (case side2 => exact HC0.out); rintro e w10 ⟨v494, v497, v501, rfl, ho0, ho1, ho2, hb⟩; refine ⟨_, rfl, ?_⟩; have HO495 := Aside0.mk (Kd.Q_lower (Kd.Q_mono (ok' := fun k_ => True) ho0 (fun _ hk_ => trivial)) (below_size BU)); have HO498 := Aside0.mk (Kd.V_lower (Kd.V_mono (ok' := fun k_ => some k_ ≠ (v494 : Value).ownBlock) ho1 (fun k_ hk_ => hk_.2)) (below_size BU)); have HO502 := Aside0.mk (Kd.V_lower (Kd.V_mono (ok' := fun k_ => some k_ ≠ (v494 : Value).ownBlock) ho2 (fun k_ hk_ => hk_.2)) (below_size BU)); replace HB := BS hb; (try clear hb); (try clear ho0); (try clear ho1); (try clear ho2)) | ((with_reducible refine gate_dst (N := 6) rfl ?_); (try (refine gate_guard (by rfl) ?_; dsimp only)); refine boxE (N := 6) (cs := #[.slice none 0 0, .int .i64 0]) (t := 27) ?_; intro gb504 hg w11 hbox hb; replace HO495 := Aside0.mk (Kd.Q_below (U HO495.out) hb); replace HO498 := Aside0.mk (Kd.V_below (Kd.V_elderB (U HO498.out) gb504 (Nat.le_of_eq hg.symm)) hb); replace HO502 := Aside0.mk (Kd.V_below (Kd.V_elderB (U HO502.out) gb504 (Nat.le_of_eq hg.symm)) hb); have BK504 := Aside0.mk (hbox); have GW504 := GS w hg; have GE504 := GS w hg; replace HB := BS hb; clear hb hbox hg) | ((with_reducible refine gate_dst (N := 7) rfl ?_); (try (refine gate_guard (by rfl) ?_; dsimp only)); refine boxE (N := 7) (cs := #[.slice none 0 0, .int .i64 0]) (t := 27) ?_; intro gb505 hg w12 hbox hb; replace HO495 := Aside0.mk (Kd.Q_below (U HO495.out) hb); replace HO498 := Aside0.mk (Kd.V_below (Kd.V_elderB (U HO498.out) gb505 (Nat.le_of_eq hg.symm)) hb); replace HO502 := Aside0.mk (Kd.V_below (Kd.V_elderB (U HO502.out) gb505 (Nat.le_of_eq hg.symm)) hb); have BK505 := Aside0.mk (hbox); have GW505 := GS w hg; have GE505 := GS w hg; replace HB := BS hb; have NB504_505 := NL BK504 hg; have NB505_504 := NG BK504 hg; replace BK504 := bB BK504 hb; clear hb hbox hg; obtain ⟨Ao13, co13, eo13⟩ := Kd.V_slice HO498.out; subst eo13; have hnb14 := NB504_505.out; have hnc14 := NB505_504.out; obtain ⟨hcz15_0, hcz15_1, hfz15_0, hfz15_1⟩ := bcf BK504; obtain ⟨Ao16, co16, eo16⟩ := Kd.V_slice HO502.out; subst eo16; obtain ⟨hcz17_0, hcz17_1, hfz17_0, hfz17_1⟩ := bcf BK505; obtain ⟨Ao18, co18, eo18, _⟩ := Kd.Q_slice HO495.out; subst eo18) | ((with_reducible refine gate_callee (f := 18) rfl ?_); refine goesK (some 41) Try.func18 #[.slice Ao18 t493.length co18, .agg #[.slice Ao13 t496.length co13, .int .i64 t499], .agg #[.slice Ao16 t500.length co16, .int .i64 t503]] ?_; (with_reducible refine (impl_MoveMul.calls kj2 _ _ t493 _ _ t496 t499 _ _ t500 t503 t506 t509 t510 _ ?side1 ?side2 ?side3 ?side4 ?side5 ?side6 A7.out).mono ?_); (case side1 => refine (Kd.Q_reads' (e := 3) (base := w.heap.size) (ok := fun k_ => True) (n := t493.length) (c := co18) ?_).2.2; exact (Kd.QM (Kd.Q_mono (Kd.Q_far (p := ⟨gb505, 1, none⟩) (Kd.Q_far (p := ⟨gb505, 0, none⟩) (Kd.Q_far (p := ⟨gb504, 1, none⟩) (Kd.Q_far (p := ⟨gb504, 0, none⟩) (Kd.Q_types (Kd.Q_types HO495.out BK504.out (by decide)) BK505.out (by decide)) (fun _ hk => hk.1.2) (.slice Ao13 t496.length co13)) (fun _ hk => hk.1.2) (.int .i64 t499)) (fun _ hk => hk.2) (.slice Ao16 t500.length co16)) (fun _ hk => hk.2) (.int .i64 t503)) (fun _ h_ => h_.1)) (fun _ h_ => h_.1))); (case side2 => exact (Kd.Q_reads' HO495.out).2.1); (case side3 => refine (Kd.V_reads' (e := 23) (base := w.heap.size) (ok := fun k_ => ((some k_ ≠ (.slice Ao18 t493.length co18 : Value).ownBlock ∧ k_ ≠ gb504) ∧ k_ ≠ gb505)) (n := t496.length) (c := co13) ?_).2.2; exact (Kd.VM (Kd.V_mono (Kd.V_far (p := ⟨gb505, 1, none⟩) (Kd.V_far (p := ⟨gb505, 0, none⟩) (Kd.V_far (p := ⟨gb504, 1, none⟩) (Kd.V_far (p := ⟨gb504, 0, none⟩) (Kd.V_mono (Kd.V_mono HO498.out (fun k_ hk => (⟨hk, hk.1.2⟩ : _ ∧ k_ ≠ gb504))) (fun k_ hk => (⟨hk, hk.1.2⟩ : _ ∧ k_ ≠ gb505))) (fun _ hk => hk.1.2) (.slice Ao13 t496.length co13)) (fun _ hk => hk.1.2) (.int .i64 t499)) (fun _ hk => hk.2) (.slice Ao16 t500.length co16)) (fun _ hk => hk.2) (.int .i64 t503)) (fun _ h_ => h_.1)) (fun _ h_ => h_.1))); (case side4 => exact (Kd.V_reads' HO498.out).2.1); (case side5 => refine (Kd.V_reads' (e := 23) (base := w.heap.size) (ok := fun k_ => ((some k_ ≠ (.slice Ao18 t493.length co18 : Value).ownBlock ∧ k_ ≠ gb504) ∧ k_ ≠ gb505)) (n := t500.length) (c := co16) ?_).2.2; exact (Kd.VM (Kd.V_mono (Kd.V_far (p := ⟨gb505, 1, none⟩) (Kd.V_far (p := ⟨gb505, 0, none⟩) (Kd.V_far (p := ⟨gb504, 1, none⟩) (Kd.V_far (p := ⟨gb504, 0, none⟩) (Kd.V_mono (Kd.V_mono HO502.out (fun k_ hk => (⟨hk, hk.1.2⟩ : _ ∧ k_ ≠ gb504))) (fun k_ hk => (⟨hk, hk.1.2⟩ : _ ∧ k_ ≠ gb505))) (fun _ hk => hk.1.2) (.slice Ao13 t496.length co13)) (fun _ hk => hk.1.2) (.int .i64 t499)) (fun _ hk => hk.2) (.slice Ao16 t500.length co16)) (fun _ hk => hk.2) (.int .i64 t503)) (fun _ h_ => h_.1)) (fun _ h_ => h_.1))); (case side6 => exact (Kd.V_reads' HO502.out).2.1); rintro e w19 ⟨v507, rfl, ho0, hb⟩; refine ⟨_, rfl, ?_⟩; replace HO498 := Aside0.mk (Kd.V_elder' (Kd.VM (Kd.V_mono (Kd.V_far (p := ⟨gb505, 1, none⟩) (Kd.V_far (p := ⟨gb505, 0, none⟩) (Kd.V_far (p := ⟨gb504, 1, none⟩) (Kd.V_far (p := ⟨gb504, 0, none⟩) (Kd.V_mono (Kd.V_mono HO498.out (fun k_ hk => (⟨hk, hk.1.2⟩ : _ ∧ k_ ≠ gb504))) (fun k_ hk => (⟨hk, hk.1.2⟩ : _ ∧ k_ ≠ gb505))) (fun _ hk => hk.1.2) (.slice Ao13 t496.length co13)) (fun _ hk => hk.1.2) (.int .i64 t499)) (fun _ hk => hk.2) (.slice Ao16 t500.length co16)) (fun _ hk => hk.2) (.int .i64 t503)) (fun _ h_ => h_.1)) (fun _ h_ => h_.1)) (Kd.S_base ho0) hb); replace HO502 := Aside0.mk (Kd.V_elder' (Kd.VM (Kd.V_mono (Kd.V_far (p := ⟨gb505, 1, none⟩) (Kd.V_far (p := ⟨gb505, 0, none⟩) (Kd.V_far (p := ⟨gb504, 1, none⟩) (Kd.V_far (p := ⟨gb504, 0, none⟩) (Kd.V_mono (Kd.V_mono HO502.out (fun k_ hk => (⟨hk, hk.1.2⟩ : _ ∧ k_ ≠ gb504))) (fun k_ hk => (⟨hk, hk.1.2⟩ : _ ∧ k_ ≠ gb505))) (fun _ hk => hk.1.2) (.slice Ao13 t496.length co13)) (fun _ hk => hk.1.2) (.int .i64 t499)) (fun _ hk => hk.2) (.slice Ao16 t500.length co16)) (fun _ hk => hk.2) (.int .i64 t503)) (fun _ h_ => h_.1)) (fun _ h_ => h_.1)) (Kd.S_base ho0) hb); have HO508 := Aside0.mk (Kd.S_lower (Kd.S_new' ho0 (Kd.Q_lt (Kd.QM (Kd.Q_mono (Kd.Q_far (p := ⟨gb505, 1, none⟩) (Kd.Q_far (p := ⟨gb505, 0, none⟩) (Kd.Q_far (p := ⟨gb504, 1, none⟩) (Kd.Q_far (p := ⟨gb504, 0, none⟩) (Kd.Q_types (Kd.Q_types HO495.out BK504.out (by decide)) BK505.out (by decide)) (fun _ hk => hk.1.2) (.slice Ao13 t496.length co13)) (fun _ hk => hk.1.2) (.int .i64 t499)) (fun _ hk => hk.2) (.slice Ao16 t500.length co16)) (fun _ hk => hk.2) (.int .i64 t503)) (fun _ h_ => h_.1)) (fun _ h_ => h_.1)))) (below_size BU)); replace HO495 := Aside0.mk (Kd.Q_below (Kd.QM (Kd.Q_mono (Kd.Q_far (p := ⟨gb505, 1, none⟩) (Kd.Q_far (p := ⟨gb505, 0, none⟩) (Kd.Q_far (p := ⟨gb504, 1, none⟩) (Kd.Q_far (p := ⟨gb504, 0, none⟩) (Kd.Q_types (Kd.Q_types HO495.out BK504.out (by decide)) BK505.out (by decide)) (fun _ hk => hk.1.2) (.slice Ao13 t496.length co13)) (fun _ hk => hk.1.2) (.int .i64 t499)) (fun _ hk => hk.2) (.slice Ao16 t500.length co16)) (fun _ hk => hk.2) (.int .i64 t503)) (fun _ h_ => h_.1)) (fun _ h_ => h_.1)) hb); replace BK504 := Aside0.mk (blk_below (g := gb504) (o := .cells #[.slice Ao13 t496.length co13, .int .i64 t499] 27 (0, 0)) (by (with_reducible repeat (first | refine blk_drewN ?_ _ | refine blk_drew ?_ | refine blk_alloc ?_ _)); refine blk_far ?_ NB504_505.out _; (with_reducible repeat (first | refine blk_drewN ?_ _ | refine blk_drew ?_ | refine blk_alloc ?_ _)); refine blk_far ?_ NB504_505.out _; (with_reducible repeat (first | refine blk_drewN ?_ _ | refine blk_drew ?_ | refine blk_alloc ?_ _)); refine blk_put (cs := #[.slice Ao13 t496.length co13, .int .i64 0]) ?_ 1 _ rfl; (with_reducible repeat (first | refine blk_drewN ?_ _ | refine blk_drew ?_ | refine blk_alloc ?_ _)); refine blk_put (cs := #[.slice none 0 0, .int .i64 0]) ?_ 0 _ rfl; (with_reducible repeat (first | refine blk_drewN ?_ _ | refine blk_drew ?_ | refine blk_alloc ?_ _)); exact BK504.out) hb); replace BK505 := Aside0.mk (blk_below (g := gb505) (o := .cells #[.slice Ao16 t500.length co16, .int .i64 t503] 27 (0, 0)) (by (with_reducible repeat (first | refine blk_drewN ?_ _ | refine blk_drew ?_ | refine blk_alloc ?_ _)); refine blk_put (cs := #[.slice Ao16 t500.length co16, .int .i64 0]) ?_ 1 _ rfl; (with_reducible repeat (first | refine blk_drewN ?_ _ | refine blk_drew ?_ | refine blk_alloc ?_ _)); refine blk_put (cs := #[.slice none 0 0, .int .i64 0]) ?_ 0 _ rfl; (with_reducible repeat (first | refine blk_drewN ?_ _ | refine blk_drew ?_ | refine blk_alloc ?_ _)); refine blk_far ?_ NB505_504.out _; (with_reducible repeat (first | refine blk_drewN ?_ _ | refine blk_drew ?_ | refine blk_alloc ?_ _)); refine blk_far ?_ NB505_504.out _; (with_reducible repeat (first | refine blk_drewN ?_ _ | refine blk_drew ?_ | refine blk_alloc ?_ _)); exact BK505.out) hb); replace HB := BS hb; (try clear hb); (try clear ho0)) | ((with_reducible refine gate_dst (N := 8) rfl ?_); (try (refine gate_guard (by rfl) ?_; dsimp only)); refine boxE (N := 8) (cs := #[.slice none 0 0, .int .i64 0]) (t := 27) ?_; intro gb511 hg w20 hbox hb; replace HO495 := Aside0.mk (Kd.Q_below (U HO495.out) hb); replace HO498 := Aside0.mk (Kd.V_below (Kd.V_elderB (U HO498.out) gb511 (Nat.le_of_eq hg.symm)) hb); replace HO502 := Aside0.mk (Kd.V_below (Kd.V_elderB (U HO502.out) gb511 (Nat.le_of_eq hg.symm)) hb); replace HO508 := Aside0.mk (Kd.S_below (U HO508.out) hb); have BK511 := Aside0.mk (hbox); have GW511 := GS w hg; have GE511 := GS w hg; replace HB := BS hb; have NB504_511 := NL BK504 hg; have NB511_504 := NG BK504 hg; replace BK504 := bB BK504 hb; have NB505_511 := NL BK505 hg; have NB511_505 := NG BK505 hg; replace BK505 := bB BK505 hb; clear hb hbox hg; obtain ⟨Ao21, co21, eo21⟩ := Kd.S_slice HO508.out; subst eo21; have hnb22 := NB511_504.out; have hnc22 := NB504_511.out; have hnb23 := NB511_505.out; have hnc23 := NB505_511.out; obtain ⟨hcz24_0, hcz24_1, hfz24_0, hfz24_1⟩ := bcf BK511; obtain ⟨hcz25_0, hcz25_1, hfz25_0, hfz25_1⟩ := bcf BK504; obtain ⟨hcz26_0, hcz26_1, hfz26_0, hfz26_1⟩ := bcf BK505) | ((with_reducible refine gate_callee (f := 37) rfl ?_); refine goesK (some 48) Try.func37 #[.slice Ao18 t493.length co18, .agg #[.slice Ao13 t496.length co13, .int .i64 t499], .agg #[.slice Ao16 t500.length co16, .int .i64 t503]] ?_; (with_reducible refine (spec_MoveMul.calls kj2 _ _ t493 _ _ t496 t499 _ _ t500 t503 t512 t515 t516 _ ?side1 ?side2 ?side3 ?side4 ?side5 ?side6 A8.out).mono ?_); (case side1 => refine (Kd.Q_reads' (e := 3) (base := w.heap.size) (ok := fun k_ => True) (n := t493.length) (c := co18) ?_).2.2; exact (Kd.QM (Kd.Q_far (p := ⟨gb511, 1, none⟩) (Kd.Q_far (p := ⟨gb511, 0, none⟩) (Kd.Q_types HO495.out BK511.out (by decide)) (fun _ hk => hk.2) (.slice Ao21 t506.length co21)) (fun _ hk => hk.2) (.int .i64 t509)) (fun _ h_ => h_.1))); (case side2 => exact (Kd.Q_reads' HO495.out).2.1); (case side3 => refine (Kd.V_reads' (e := 23) (base := w.heap.size) (ok := fun k_ => ((((some k_ ≠ (.slice Ao18 t493.length co18 : Value).ownBlock ∧ k_ ≠ gb504) ∧ k_ ≠ gb505) ∧ some k_ ≠ (.slice Ao21 t506.length co21 : Value).ownBlock) ∧ k_ ≠ gb511)) (n := t496.length) (c := co13) ?_).2.2; exact (Kd.VM (Kd.V_far (p := ⟨gb511, 1, none⟩) (Kd.V_far (p := ⟨gb511, 0, none⟩) (Kd.V_mono HO498.out (fun k_ hk => (⟨hk, hk.2⟩ : _ ∧ k_ ≠ gb511))) (fun _ hk => hk.2) (.slice Ao21 t506.length co21)) (fun _ hk => hk.2) (.int .i64 t509)) (fun _ h_ => h_.1))); (case side4 => exact (Kd.V_reads' HO498.out).2.1); (case side5 => refine (Kd.V_reads' (e := 23) (base := w.heap.size) (ok := fun k_ => ((((some k_ ≠ (.slice Ao18 t493.length co18 : Value).ownBlock ∧ k_ ≠ gb504) ∧ k_ ≠ gb505) ∧ some k_ ≠ (.slice Ao21 t506.length co21 : Value).ownBlock) ∧ k_ ≠ gb511)) (n := t500.length) (c := co16) ?_).2.2; exact (Kd.VM (Kd.V_far (p := ⟨gb511, 1, none⟩) (Kd.V_far (p := ⟨gb511, 0, none⟩) (Kd.V_mono HO502.out (fun k_ hk => (⟨hk, hk.2⟩ : _ ∧ k_ ≠ gb511))) (fun _ hk => hk.2) (.slice Ao21 t506.length co21)) (fun _ hk => hk.2) (.int .i64 t509)) (fun _ h_ => h_.1))); (case side6 => exact (Kd.V_reads' HO502.out).2.1); rintro e w27 ⟨v513, rfl, ho0, hb⟩; refine ⟨_, rfl, ?_⟩; replace HO498 := Aside0.mk (Kd.V_elder' (Kd.VM (Kd.V_far (p := ⟨gb511, 1, none⟩) (Kd.V_far (p := ⟨gb511, 0, none⟩) (Kd.V_mono HO498.out (fun k_ hk => (⟨hk, hk.2⟩ : _ ∧ k_ ≠ gb511))) (fun _ hk => hk.2) (.slice Ao21 t506.length co21)) (fun _ hk => hk.2) (.int .i64 t509)) (fun _ h_ => h_.1)) (Kd.S_base ho0) hb); replace HO502 := Aside0.mk (Kd.V_elder' (Kd.VM (Kd.V_far (p := ⟨gb511, 1, none⟩) (Kd.V_far (p := ⟨gb511, 0, none⟩) (Kd.V_mono HO502.out (fun k_ hk => (⟨hk, hk.2⟩ : _ ∧ k_ ≠ gb511))) (fun _ hk => hk.2) (.slice Ao21 t506.length co21)) (fun _ hk => hk.2) (.int .i64 t509)) (fun _ h_ => h_.1)) (Kd.S_base ho0) hb); have HO514 := Aside0.mk (Kd.S_lower (Kd.S_new' (Kd.S_new' ho0 (Kd.Q_lt (Kd.QM (Kd.Q_far (p := ⟨gb511, 1, none⟩) (Kd.Q_far (p := ⟨gb511, 0, none⟩) (Kd.Q_types HO495.out BK511.out (by decide)) (fun _ hk => hk.2) (.slice Ao21 t506.length co21)) (fun _ hk => hk.2) (.int .i64 t509)) (fun _ h_ => h_.1)))) (Kd.S_lt (Kd.SM (Kd.S_far (p := ⟨gb511, 1, none⟩) (Kd.S_far (p := ⟨gb511, 0, none⟩) (Kd.S_types HO508.out BK511.out (by decide)) (fun _ hk => hk.2) (.slice Ao21 t506.length co21)) (fun _ hk => hk.2) (.int .i64 t509)) (fun _ h_ => h_.1)))) (below_size BU)); replace HO495 := Aside0.mk (Kd.Q_below (Kd.QM (Kd.Q_far (p := ⟨gb511, 1, none⟩) (Kd.Q_far (p := ⟨gb511, 0, none⟩) (Kd.Q_types HO495.out BK511.out (by decide)) (fun _ hk => hk.2) (.slice Ao21 t506.length co21)) (fun _ hk => hk.2) (.int .i64 t509)) (fun _ h_ => h_.1)) hb); replace HO508 := Aside0.mk (Kd.S_elder' (Kd.SM (Kd.S_far (p := ⟨gb511, 1, none⟩) (Kd.S_far (p := ⟨gb511, 0, none⟩) (Kd.S_types HO508.out BK511.out (by decide)) (fun _ hk => hk.2) (.slice Ao21 t506.length co21)) (fun _ hk => hk.2) (.int .i64 t509)) (fun _ h_ => h_.1)) (Kd.S_base ho0) hb); replace BK504 := Aside0.mk (blk_below (g := gb504) (o := .cells #[.slice Ao13 t496.length co13, .int .i64 t499] 27 (0, 0)) (by (with_reducible repeat (first | refine blk_drewN ?_ _ | refine blk_drew ?_ | refine blk_alloc ?_ _)); refine blk_far ?_ NB504_511.out _; (with_reducible repeat (first | refine blk_drewN ?_ _ | refine blk_drew ?_ | refine blk_alloc ?_ _)); refine blk_far ?_ NB504_511.out _; (with_reducible repeat (first | refine blk_drewN ?_ _ | refine blk_drew ?_ | refine blk_alloc ?_ _)); exact BK504.out) hb); replace BK505 := Aside0.mk (blk_below (g := gb505) (o := .cells #[.slice Ao16 t500.length co16, .int .i64 t503] 27 (0, 0)) (by (with_reducible repeat (first | refine blk_drewN ?_ _ | refine blk_drew ?_ | refine blk_alloc ?_ _)); refine blk_far ?_ NB505_511.out _; (with_reducible repeat (first | refine blk_drewN ?_ _ | refine blk_drew ?_ | refine blk_alloc ?_ _)); refine blk_far ?_ NB505_511.out _; (with_reducible repeat (first | refine blk_drewN ?_ _ | refine blk_drew ?_ | refine blk_alloc ?_ _)); exact BK505.out) hb); replace BK511 := Aside0.mk (blk_below (g := gb511) (o := .cells #[.slice Ao21 t506.length co21, .int .i64 t509] 27 (0, 0)) (by (with_reducible repeat (first | refine blk_drewN ?_ _ | refine blk_drew ?_ | refine blk_alloc ?_ _)); refine blk_put (cs := #[.slice Ao21 t506.length co21, .int .i64 0]) ?_ 1 _ rfl; (with_reducible repeat (first | refine blk_drewN ?_ _ | refine blk_drew ?_ | refine blk_alloc ?_ _)); refine blk_put (cs := #[.slice none 0 0, .int .i64 0]) ?_ 0 _ rfl; (with_reducible repeat (first | refine blk_drewN ?_ _ | refine blk_drew ?_ | refine blk_alloc ?_ _)); exact BK511.out) hb); replace HB := BS hb; (try clear hb); (try clear ho0)) | ((with_reducible refine gate_dst (N := 10) rfl ?_); (try (refine gate_guard (by rfl) ?_; dsimp only)); refine boxE (N := 10) (cs := #[.slice none 0 0, .int .i64 0]) (t := 27) ?_; intro gb517 hg w28 hbox hb; replace HO495 := Aside0.mk (Kd.Q_below (U HO495.out) hb); replace HO498 := Aside0.mk (Kd.V_below (Kd.V_elderB (U HO498.out) gb517 (Nat.le_of_eq hg.symm)) hb); replace HO502 := Aside0.mk (Kd.V_below (Kd.V_elderB (U HO502.out) gb517 (Nat.le_of_eq hg.symm)) hb); replace HO508 := Aside0.mk (Kd.S_below (U HO508.out) hb); replace HO514 := Aside0.mk (Kd.S_below (U HO514.out) hb); have BK517 := Aside0.mk (hbox); have GW517 := GS w hg; have GE517 := GS w hg; replace HB := BS hb; have NB504_517 := NL BK504 hg; have NB517_504 := NG BK504 hg; replace BK504 := bB BK504 hb; have NB505_517 := NL BK505 hg; have NB517_505 := NG BK505 hg; replace BK505 := bB BK505 hb; have NB511_517 := NL BK511 hg; have NB517_511 := NG BK511 hg; replace BK511 := bB BK511 hb; clear hb hbox hg; obtain ⟨Ao29, co29, eo29⟩ := Kd.S_slice HO514.out; subst eo29; have hnb30 := NB517_504.out; have hnc30 := NB504_517.out; have hnb31 := NB517_505.out; have hnc31 := NB505_517.out; have hnb32 := NB517_511.out; have hnc32 := NB511_517.out; obtain ⟨hcz33_0, hcz33_1, hfz33_0, hfz33_1⟩ := bcf BK517))
        (try simp only [Act.put, List.setIfInBounds_toArray, List.set_cons_zero, List.set_cons_succ])
        go_cut [63] (fun v63 wc => ∃ (kq : Nat) (x63_8 : Bool), v63 = .bool x63_8 ∧ Aside0 (laws_FnMoveMul.j1 kq l1 t493 t510 t516 x63_8 t496 t499 t500 t503 t506 t509 t512 t515 = some r) ∧ Aside0 (kq ≤ kj2) ∧ Aside0 (Kd.Q (Kd.int .i64) 3 wc w.heap.size (fun _ => True) (.slice Ao18 t493.length co18) t493) ∧ Aside0 (Kd.V (Kd.slice 3 (Kd.int .i64)) 23 wc w.heap.size (fun k_ => some k_ ≠ ((.slice Ao18 t493.length co18) : Value).ownBlock ∧ some k_ ≠ ((.slice Ao21 t506.length co21) : Value).ownBlock ∧ some k_ ≠ ((.slice Ao29 t512.length co29) : Value).ownBlock ∧ k_ ≠ gb504 ∧ k_ ≠ gb505 ∧ k_ ≠ gb511 ∧ k_ ≠ gb517) (.slice Ao13 t496.length co13) t496) ∧ Aside0 (Kd.V (Kd.slice 3 (Kd.int .i64)) 23 wc w.heap.size (fun k_ => some k_ ≠ ((.slice Ao18 t493.length co18) : Value).ownBlock ∧ some k_ ≠ ((.slice Ao21 t506.length co21) : Value).ownBlock ∧ some k_ ≠ ((.slice Ao29 t512.length co29) : Value).ownBlock ∧ k_ ≠ gb504 ∧ k_ ≠ gb505 ∧ k_ ≠ gb511 ∧ k_ ≠ gb517) (.slice Ao16 t500.length co16) t500) ∧ Aside0 (Kd.S (Kd.slice 3 (Kd.int .i64)) 23 wc w.heap.size (fun k_ => some k_ ≠ ((.slice Ao18 t493.length co18) : Value).ownBlock ∧ some k_ ≠ ((.slice Ao29 t512.length co29) : Value).ownBlock) (.slice Ao21 t506.length co21) t506) ∧ Aside0 (Kd.S (Kd.slice 3 (Kd.int .i64)) 23 wc w.heap.size (fun k_ => some k_ ≠ ((.slice Ao18 t493.length co18) : Value).ownBlock ∧ some k_ ≠ ((.slice Ao21 t506.length co21) : Value).ownBlock) (.slice Ao29 t512.length co29) t512) ∧ Aside0 (wc.heap[gb504]? = some (.cells #[(.slice Ao13 t496.length co13), .int .i64 t499] 27 (0, 0))) ∧ Aside0 (wc.heap[gb505]? = some (.cells #[(.slice Ao16 t500.length co16), .int .i64 t503] 27 (0, 0))) ∧ Aside0 (wc.heap[gb511]? = some (.cells #[(.slice Ao21 t506.length co21), .int .i64 t509] 27 (0, 0))) ∧ Aside0 (wc.heap[gb517]? = some (.cells #[(.slice Ao29 t512.length co29), .int .i64 t515] 27 (0, 0))) ∧ Aside0 (Below w.heap.size w wc))
        case first =>
          have H := HC9.out; clear HC9
          by_cases c34 : (t510 != t516) = true
          · rw [if_pos c34] at H
            have c34b0 : (t510 != t516) = true := c34
            (try (have c34b1 : decide (t510 = t516) = false := by simpa using c34))
            (try (have c34b2 : (t510 == t516) = false := by simpa using c34))
            (try (have c34b3 : ¬ (t510 = t516) := by simpa using c34))
            clear c34
            (first | rw [c34b0] | (simp only [i64_w, i32_w]; rw [c34b0]) | skip)
            have H' := Aside0.mk H; clear H
            go_wp2
            go_meet
            case rel => exact ⟨_, (true), sR, H', ⟨by have := HJ2.out; first | omega | exact Nat.le_refl _⟩, ⟨Kd.QM (Kd.Q_far (p := ⟨gb517, 1, none⟩) (Kd.Q_far (p := ⟨gb517, 0, none⟩) (Kd.Q_types HO495.out BK517.out (by decide)) (fun _ hk => hk.2) (.slice Ao29 t512.length co29)) (fun _ hk => hk.2) (.int .i64 t515)) (fun _ hk => trivial)⟩, ⟨Kd.VM (Kd.V_far (p := ⟨gb517, 1, none⟩) (Kd.V_far (p := ⟨gb517, 0, none⟩) (Kd.V_mono HO498.out (fun k_ hk => (⟨hk, hk.2⟩ : _ ∧ k_ ≠ gb517))) (fun _ hk => hk.2) (.slice Ao29 t512.length co29)) (fun _ hk => hk.2) (.int .i64 t515)) (fun _ hk => ⟨hk.1.1.1.1.1.1.1, ⟨hk.1.1.1.1.2, ⟨hk.1.1.2, ⟨hk.1.1.1.1.1.1.2, ⟨hk.1.1.1.1.1.2, ⟨hk.1.1.1.2, hk.1.2⟩⟩⟩⟩⟩⟩)⟩, ⟨Kd.VM (Kd.V_far (p := ⟨gb517, 1, none⟩) (Kd.V_far (p := ⟨gb517, 0, none⟩) (Kd.V_mono HO502.out (fun k_ hk => (⟨hk, hk.2⟩ : _ ∧ k_ ≠ gb517))) (fun _ hk => hk.2) (.slice Ao29 t512.length co29)) (fun _ hk => hk.2) (.int .i64 t515)) (fun _ hk => ⟨hk.1.1.1.1.1.1.1, ⟨hk.1.1.1.1.2, ⟨hk.1.1.2, ⟨hk.1.1.1.1.1.1.2, ⟨hk.1.1.1.1.1.2, ⟨hk.1.1.1.2, hk.1.2⟩⟩⟩⟩⟩⟩)⟩, ⟨Kd.SM (Kd.S_far (p := ⟨gb517, 1, none⟩) (Kd.S_far (p := ⟨gb517, 0, none⟩) (Kd.S_types HO508.out BK517.out (by decide)) (fun _ hk => hk.2) (.slice Ao29 t512.length co29)) (fun _ hk => hk.2) (.int .i64 t515)) (fun _ hk => ⟨hk.1.1.2, hk.1.2⟩)⟩, ⟨Kd.SM (Kd.S_far (p := ⟨gb517, 1, none⟩) (Kd.S_far (p := ⟨gb517, 0, none⟩) (Kd.S_types HO514.out BK517.out (by decide)) (fun _ hk => hk.2) (.slice Ao29 t512.length co29)) (fun _ hk => hk.2) (.int .i64 t515)) (fun _ hk => ⟨hk.1.1.2, hk.1.2⟩)⟩, ⟨by (with_reducible repeat (first | refine blk_drewN ?_ _ | refine blk_drew ?_ | refine blk_alloc ?_ _)); refine blk_far ?_ NB504_517.out _; (with_reducible repeat (first | refine blk_drewN ?_ _ | refine blk_drew ?_ | refine blk_alloc ?_ _)); refine blk_far ?_ NB504_517.out _; (with_reducible repeat (first | refine blk_drewN ?_ _ | refine blk_drew ?_ | refine blk_alloc ?_ _)); exact BK504.out⟩, ⟨by (with_reducible repeat (first | refine blk_drewN ?_ _ | refine blk_drew ?_ | refine blk_alloc ?_ _)); refine blk_far ?_ NB505_517.out _; (with_reducible repeat (first | refine blk_drewN ?_ _ | refine blk_drew ?_ | refine blk_alloc ?_ _)); refine blk_far ?_ NB505_517.out _; (with_reducible repeat (first | refine blk_drewN ?_ _ | refine blk_drew ?_ | refine blk_alloc ?_ _)); exact BK505.out⟩, ⟨by (with_reducible repeat (first | refine blk_drewN ?_ _ | refine blk_drew ?_ | refine blk_alloc ?_ _)); refine blk_far ?_ NB511_517.out _; (with_reducible repeat (first | refine blk_drewN ?_ _ | refine blk_drew ?_ | refine blk_alloc ?_ _)); refine blk_far ?_ NB511_517.out _; (with_reducible repeat (first | refine blk_drewN ?_ _ | refine blk_drew ?_ | refine blk_alloc ?_ _)); exact BK511.out⟩, ⟨by (with_reducible repeat (first | refine blk_drewN ?_ _ | refine blk_drew ?_ | refine blk_alloc ?_ _)); refine blk_put (cs := #[.slice Ao29 t512.length co29, .int .i64 0]) ?_ 1 _ rfl; (with_reducible repeat (first | refine blk_drewN ?_ _ | refine blk_drew ?_ | refine blk_alloc ?_ _)); refine blk_put (cs := #[.slice none 0 0, .int .i64 0]) ?_ 0 _ rfl; (with_reducible repeat (first | refine blk_drewN ?_ _ | refine blk_drew ?_ | refine blk_alloc ?_ _)); exact BK517.out⟩, ⟨BU⟩⟩
          · rw [if_neg c34] at H
            have c34b0 : (t510 != t516) = false := by simpa using c34
            (try (have c34b1 : decide (t510 = t516) = true := by simpa using c34))
            (try (have c34b2 : (t510 == t516) = true := by simpa using c34))
            clear c34
            (first | rw [c34b0] | (simp only [i64_w, i32_w]; rw [c34b0]) | skip)
            obtain ⟨t518, A35, H⟩ := bnd H
            by_cases c36 : t518 = true
            · subst c36
              replace H := ifT H; have H' := Aside0.mk H; clear H; have hnb37 := NB511_504.out; have hnc37 := NB504_511.out; have hnb38 := NB511_505.out; have hnc38 := NB505_511.out; have hnb39 := NB511_517.out; have hnc39 := NB517_511.out; obtain ⟨hcz40_0, hcz40_1, hfz40_0, hfz40_1⟩ := bcf BK511; have hnb41 := NB517_504.out; have hnc41 := NB504_517.out; have hnb42 := NB517_505.out; have hnc42 := NB505_517.out; obtain ⟨hcz43_0, hcz43_1, hfz43_0, hfz43_1⟩ := bcf BK517
              go_wp2_with (first | (go_at_call 16; (with_reducible refine (laws_sameMove.calls kj2 _ _ t506 t509 _ _ t512 t515 true _ ?side1 ?side2 ?side3 ?side4 A35.out).mono ?_); (case side1 => refine (Kd.S_reads' (e := 23) (base := w.heap.size) (ok := fun k_ => ((True ∧ some k_ ≠ (.slice Ao18 t493.length co18 : Value).ownBlock) ∧ some k_ ≠ (.slice Ao29 t512.length co29 : Value).ownBlock)) (n := t506.length) (c := co21) ?_).2.2; exact (Kd.SM (Kd.S_far (p := ⟨gb517, 1, none⟩) (Kd.S_far (p := ⟨gb517, 0, none⟩) (Kd.S_types HO508.out BK517.out (by decide)) (fun _ hk => hk.2) (.slice Ao29 t512.length co29)) (fun _ hk => hk.2) (.int .i64 t515)) (fun _ h_ => h_.1))); (case side2 => exact (Kd.S_reads' HO508.out).2.1); (case side3 => refine (Kd.S_reads' (e := 23) (base := w.heap.size) (ok := fun k_ => ((True ∧ some k_ ≠ (.slice Ao18 t493.length co18 : Value).ownBlock) ∧ some k_ ≠ (.slice Ao21 t506.length co21 : Value).ownBlock)) (n := t512.length) (c := co29) ?_).2.2; exact (Kd.SM (Kd.S_far (p := ⟨gb517, 1, none⟩) (Kd.S_far (p := ⟨gb517, 0, none⟩) (Kd.S_types HO514.out BK517.out (by decide)) (fun _ hk => hk.2) (.slice Ao29 t512.length co29)) (fun _ hk => hk.2) (.int .i64 t515)) (fun _ h_ => h_.1))); (case side4 => exact (Kd.S_reads' HO514.out).2.1); rintro e w44 ⟨rfl, hb⟩; replace HO495 := Aside0.mk (Kd.Q_below (Kd.QM (Kd.Q_far (p := ⟨gb517, 1, none⟩) (Kd.Q_far (p := ⟨gb517, 0, none⟩) (Kd.Q_types HO495.out BK517.out (by decide)) (fun _ hk => hk.2) (.slice Ao29 t512.length co29)) (fun _ hk => hk.2) (.int .i64 t515)) (fun _ h_ => h_.1)) hb); replace HO498 := Aside0.mk (Kd.V_below (Kd.VM (Kd.V_far (p := ⟨gb517, 1, none⟩) (Kd.V_far (p := ⟨gb517, 0, none⟩) (Kd.V_mono HO498.out (fun k_ hk => (⟨hk, hk.2⟩ : _ ∧ k_ ≠ gb517))) (fun _ hk => hk.2) (.slice Ao29 t512.length co29)) (fun _ hk => hk.2) (.int .i64 t515)) (fun _ h_ => h_.1)) hb); replace HO502 := Aside0.mk (Kd.V_below (Kd.VM (Kd.V_far (p := ⟨gb517, 1, none⟩) (Kd.V_far (p := ⟨gb517, 0, none⟩) (Kd.V_mono HO502.out (fun k_ hk => (⟨hk, hk.2⟩ : _ ∧ k_ ≠ gb517))) (fun _ hk => hk.2) (.slice Ao29 t512.length co29)) (fun _ hk => hk.2) (.int .i64 t515)) (fun _ h_ => h_.1)) hb); replace HO508 := Aside0.mk (Kd.S_below (Kd.SM (Kd.S_far (p := ⟨gb517, 1, none⟩) (Kd.S_far (p := ⟨gb517, 0, none⟩) (Kd.S_types HO508.out BK517.out (by decide)) (fun _ hk => hk.2) (.slice Ao29 t512.length co29)) (fun _ hk => hk.2) (.int .i64 t515)) (fun _ h_ => h_.1)) hb); replace HO514 := Aside0.mk (Kd.S_below (Kd.SM (Kd.S_far (p := ⟨gb517, 1, none⟩) (Kd.S_far (p := ⟨gb517, 0, none⟩) (Kd.S_types HO514.out BK517.out (by decide)) (fun _ hk => hk.2) (.slice Ao29 t512.length co29)) (fun _ hk => hk.2) (.int .i64 t515)) (fun _ h_ => h_.1)) hb); replace BK504 := Aside0.mk (blk_below (g := gb504) (o := .cells #[.slice Ao13 t496.length co13, .int .i64 t499] 27 (0, 0)) (by (with_reducible repeat (first | refine blk_drewN ?_ _ | refine blk_drew ?_ | refine blk_alloc ?_ _)); refine blk_far ?_ NB504_517.out _; (with_reducible repeat (first | refine blk_drewN ?_ _ | refine blk_drew ?_ | refine blk_alloc ?_ _)); refine blk_far ?_ NB504_517.out _; (with_reducible repeat (first | refine blk_drewN ?_ _ | refine blk_drew ?_ | refine blk_alloc ?_ _)); exact BK504.out) hb); replace BK505 := Aside0.mk (blk_below (g := gb505) (o := .cells #[.slice Ao16 t500.length co16, .int .i64 t503] 27 (0, 0)) (by (with_reducible repeat (first | refine blk_drewN ?_ _ | refine blk_drew ?_ | refine blk_alloc ?_ _)); refine blk_far ?_ NB505_517.out _; (with_reducible repeat (first | refine blk_drewN ?_ _ | refine blk_drew ?_ | refine blk_alloc ?_ _)); refine blk_far ?_ NB505_517.out _; (with_reducible repeat (first | refine blk_drewN ?_ _ | refine blk_drew ?_ | refine blk_alloc ?_ _)); exact BK505.out) hb); replace BK511 := Aside0.mk (blk_below (g := gb511) (o := .cells #[.slice Ao21 t506.length co21, .int .i64 t509] 27 (0, 0)) (by (with_reducible repeat (first | refine blk_drewN ?_ _ | refine blk_drew ?_ | refine blk_alloc ?_ _)); refine blk_far ?_ NB511_517.out _; (with_reducible repeat (first | refine blk_drewN ?_ _ | refine blk_drew ?_ | refine blk_alloc ?_ _)); refine blk_far ?_ NB511_517.out _; (with_reducible repeat (first | refine blk_drewN ?_ _ | refine blk_drew ?_ | refine blk_alloc ?_ _)); exact BK511.out) hb); replace BK517 := Aside0.mk (blk_below (g := gb517) (o := .cells #[.slice Ao29 t512.length co29, .int .i64 t515] 27 (0, 0)) (by (with_reducible repeat (first | refine blk_drewN ?_ _ | refine blk_drew ?_ | refine blk_alloc ?_ _)); refine blk_put (cs := #[.slice Ao29 t512.length co29, .int .i64 0]) ?_ 1 _ rfl; (with_reducible repeat (first | refine blk_drewN ?_ _ | refine blk_drew ?_ | refine blk_alloc ?_ _)); refine blk_put (cs := #[.slice none 0 0, .int .i64 0]) ?_ 0 _ rfl; (with_reducible repeat (first | refine blk_drewN ?_ _ | refine blk_drew ?_ | refine blk_alloc ?_ _)); exact BK517.out) hb); replace HB := BS hb; (try clear hb)))
              go_meet
              case rel => exact ⟨_, (!t510), sR, H', ⟨by have := HJ2.out; first | omega | exact Nat.le_refl _⟩, ⟨U HO495.out⟩, ⟨Kd.VM HO498.out (fun _ hk => ⟨hk.1.1.1.1.1.1, ⟨hk.1.1.1.2, ⟨hk.1.2, ⟨hk.1.1.1.1.1.2, ⟨hk.1.1.1.1.2, ⟨hk.1.1.2, hk.2⟩⟩⟩⟩⟩⟩)⟩, ⟨Kd.VM HO502.out (fun _ hk => ⟨hk.1.1.1.1.1.1, ⟨hk.1.1.1.2, ⟨hk.1.2, ⟨hk.1.1.1.1.1.2, ⟨hk.1.1.1.1.2, ⟨hk.1.1.2, hk.2⟩⟩⟩⟩⟩⟩)⟩, ⟨Kd.SM HO508.out (fun _ hk => ⟨hk.1.2, hk.2⟩)⟩, ⟨Kd.SM HO514.out (fun _ hk => ⟨hk.1.2, hk.2⟩)⟩, ⟨U BK504.out⟩, ⟨U BK505.out⟩, ⟨U BK511.out⟩, ⟨U BK517.out⟩, ⟨BU⟩⟩
            · replace c36 := Bool.eq_false_iff.mpr c36
              subst c36; replace H := ifF H; have H' := Aside0.mk H; clear H; have hnb45 := NB511_504.out; have hnc45 := NB504_511.out; have hnb46 := NB511_505.out; have hnc46 := NB505_511.out; have hnb47 := NB511_517.out; have hnc47 := NB517_511.out; obtain ⟨hcz48_0, hcz48_1, hfz48_0, hfz48_1⟩ := bcf BK511; have hnb49 := NB517_504.out; have hnc49 := NB504_517.out; have hnb50 := NB517_505.out; have hnc50 := NB505_517.out; obtain ⟨hcz51_0, hcz51_1, hfz51_0, hfz51_1⟩ := bcf BK517
              go_wp2_with (first | (go_at_call 16; (with_reducible refine (laws_sameMove.calls kj2 _ _ t506 t509 _ _ t512 t515 false _ ?side1 ?side2 ?side3 ?side4 A35.out).mono ?_); (case side1 => refine (Kd.S_reads' (e := 23) (base := w.heap.size) (ok := fun k_ => ((True ∧ some k_ ≠ (.slice Ao18 t493.length co18 : Value).ownBlock) ∧ some k_ ≠ (.slice Ao29 t512.length co29 : Value).ownBlock)) (n := t506.length) (c := co21) ?_).2.2; exact (Kd.SM (Kd.S_far (p := ⟨gb517, 1, none⟩) (Kd.S_far (p := ⟨gb517, 0, none⟩) (Kd.S_types HO508.out BK517.out (by decide)) (fun _ hk => hk.2) (.slice Ao29 t512.length co29)) (fun _ hk => hk.2) (.int .i64 t515)) (fun _ h_ => h_.1))); (case side2 => exact (Kd.S_reads' HO508.out).2.1); (case side3 => refine (Kd.S_reads' (e := 23) (base := w.heap.size) (ok := fun k_ => ((True ∧ some k_ ≠ (.slice Ao18 t493.length co18 : Value).ownBlock) ∧ some k_ ≠ (.slice Ao21 t506.length co21 : Value).ownBlock)) (n := t512.length) (c := co29) ?_).2.2; exact (Kd.SM (Kd.S_far (p := ⟨gb517, 1, none⟩) (Kd.S_far (p := ⟨gb517, 0, none⟩) (Kd.S_types HO514.out BK517.out (by decide)) (fun _ hk => hk.2) (.slice Ao29 t512.length co29)) (fun _ hk => hk.2) (.int .i64 t515)) (fun _ h_ => h_.1))); (case side4 => exact (Kd.S_reads' HO514.out).2.1); rintro e w52 ⟨rfl, hb⟩; replace HO495 := Aside0.mk (Kd.Q_below (Kd.QM (Kd.Q_far (p := ⟨gb517, 1, none⟩) (Kd.Q_far (p := ⟨gb517, 0, none⟩) (Kd.Q_types HO495.out BK517.out (by decide)) (fun _ hk => hk.2) (.slice Ao29 t512.length co29)) (fun _ hk => hk.2) (.int .i64 t515)) (fun _ h_ => h_.1)) hb); replace HO498 := Aside0.mk (Kd.V_below (Kd.VM (Kd.V_far (p := ⟨gb517, 1, none⟩) (Kd.V_far (p := ⟨gb517, 0, none⟩) (Kd.V_mono HO498.out (fun k_ hk => (⟨hk, hk.2⟩ : _ ∧ k_ ≠ gb517))) (fun _ hk => hk.2) (.slice Ao29 t512.length co29)) (fun _ hk => hk.2) (.int .i64 t515)) (fun _ h_ => h_.1)) hb); replace HO502 := Aside0.mk (Kd.V_below (Kd.VM (Kd.V_far (p := ⟨gb517, 1, none⟩) (Kd.V_far (p := ⟨gb517, 0, none⟩) (Kd.V_mono HO502.out (fun k_ hk => (⟨hk, hk.2⟩ : _ ∧ k_ ≠ gb517))) (fun _ hk => hk.2) (.slice Ao29 t512.length co29)) (fun _ hk => hk.2) (.int .i64 t515)) (fun _ h_ => h_.1)) hb); replace HO508 := Aside0.mk (Kd.S_below (Kd.SM (Kd.S_far (p := ⟨gb517, 1, none⟩) (Kd.S_far (p := ⟨gb517, 0, none⟩) (Kd.S_types HO508.out BK517.out (by decide)) (fun _ hk => hk.2) (.slice Ao29 t512.length co29)) (fun _ hk => hk.2) (.int .i64 t515)) (fun _ h_ => h_.1)) hb); replace HO514 := Aside0.mk (Kd.S_below (Kd.SM (Kd.S_far (p := ⟨gb517, 1, none⟩) (Kd.S_far (p := ⟨gb517, 0, none⟩) (Kd.S_types HO514.out BK517.out (by decide)) (fun _ hk => hk.2) (.slice Ao29 t512.length co29)) (fun _ hk => hk.2) (.int .i64 t515)) (fun _ h_ => h_.1)) hb); replace BK504 := Aside0.mk (blk_below (g := gb504) (o := .cells #[.slice Ao13 t496.length co13, .int .i64 t499] 27 (0, 0)) (by (with_reducible repeat (first | refine blk_drewN ?_ _ | refine blk_drew ?_ | refine blk_alloc ?_ _)); refine blk_far ?_ NB504_517.out _; (with_reducible repeat (first | refine blk_drewN ?_ _ | refine blk_drew ?_ | refine blk_alloc ?_ _)); refine blk_far ?_ NB504_517.out _; (with_reducible repeat (first | refine blk_drewN ?_ _ | refine blk_drew ?_ | refine blk_alloc ?_ _)); exact BK504.out) hb); replace BK505 := Aside0.mk (blk_below (g := gb505) (o := .cells #[.slice Ao16 t500.length co16, .int .i64 t503] 27 (0, 0)) (by (with_reducible repeat (first | refine blk_drewN ?_ _ | refine blk_drew ?_ | refine blk_alloc ?_ _)); refine blk_far ?_ NB505_517.out _; (with_reducible repeat (first | refine blk_drewN ?_ _ | refine blk_drew ?_ | refine blk_alloc ?_ _)); refine blk_far ?_ NB505_517.out _; (with_reducible repeat (first | refine blk_drewN ?_ _ | refine blk_drew ?_ | refine blk_alloc ?_ _)); exact BK505.out) hb); replace BK511 := Aside0.mk (blk_below (g := gb511) (o := .cells #[.slice Ao21 t506.length co21, .int .i64 t509] 27 (0, 0)) (by (with_reducible repeat (first | refine blk_drewN ?_ _ | refine blk_drew ?_ | refine blk_alloc ?_ _)); refine blk_far ?_ NB511_517.out _; (with_reducible repeat (first | refine blk_drewN ?_ _ | refine blk_drew ?_ | refine blk_alloc ?_ _)); refine blk_far ?_ NB511_517.out _; (with_reducible repeat (first | refine blk_drewN ?_ _ | refine blk_drew ?_ | refine blk_alloc ?_ _)); exact BK511.out) hb); replace BK517 := Aside0.mk (blk_below (g := gb517) (o := .cells #[.slice Ao29 t512.length co29, .int .i64 t515] 27 (0, 0)) (by (with_reducible repeat (first | refine blk_drewN ?_ _ | refine blk_drew ?_ | refine blk_alloc ?_ _)); refine blk_put (cs := #[.slice Ao29 t512.length co29, .int .i64 0]) ?_ 1 _ rfl; (with_reducible repeat (first | refine blk_drewN ?_ _ | refine blk_drew ?_ | refine blk_alloc ?_ _)); refine blk_put (cs := #[.slice none 0 0, .int .i64 0]) ?_ 0 _ rfl; (with_reducible repeat (first | refine blk_drewN ?_ _ | refine blk_drew ?_ | refine blk_alloc ?_ _)); exact BK517.out) hb); replace HB := BS hb; (try clear hb)))
              go_meet
              case rel => exact ⟨_, (true), sR, H', ⟨by have := HJ2.out; first | omega | exact Nat.le_refl _⟩, ⟨U HO495.out⟩, ⟨Kd.VM HO498.out (fun _ hk => ⟨hk.1.1.1.1.1.1, ⟨hk.1.1.1.2, ⟨hk.1.2, ⟨hk.1.1.1.1.1.2, ⟨hk.1.1.1.1.2, ⟨hk.1.1.2, hk.2⟩⟩⟩⟩⟩⟩)⟩, ⟨Kd.VM HO502.out (fun _ hk => ⟨hk.1.1.1.1.1.1, ⟨hk.1.1.1.2, ⟨hk.1.2, ⟨hk.1.1.1.1.1.2, ⟨hk.1.1.1.1.2, ⟨hk.1.1.2, hk.2⟩⟩⟩⟩⟩⟩)⟩, ⟨Kd.SM HO508.out (fun _ hk => ⟨hk.1.2, hk.2⟩)⟩, ⟨Kd.SM HO514.out (fun _ hk => ⟨hk.1.2, hk.2⟩)⟩, ⟨U BK504.out⟩, ⟨U BK505.out⟩, ⟨U BK511.out⟩, ⟨U BK517.out⟩, ⟨BU⟩⟩
        case rest =>
          clear HC9; (try clear c5); (try clear hcz15_0); (try clear hcz15_1); (try clear hcz17_0); (try clear hcz17_1); (try clear hcz24_0); (try clear hcz24_1); (try clear hcz25_0); (try clear hcz25_1); (try clear hcz26_0); (try clear hcz26_1); (try clear hcz33_0); (try clear hcz33_1); (try clear hfz15_0); (try clear hfz15_1); (try clear hfz17_0); (try clear hfz17_1); (try clear hfz24_0); (try clear hfz24_1); (try clear hfz25_0); (try clear hfz25_1); (try clear hfz26_0); (try clear hfz26_1); (try clear hfz33_0); (try clear hfz33_1); obtain ⟨kq, x63_8, rfl, HA, HJ8, HO_5, HO_505000, HO_506000, HO_512000, HO_518000, BK504, BK505, BK511, BK517, HB⟩ := hcut; cases kq with
          | zero => exact absurd HA.out (by simp [laws_FnMoveMul.j1])
          | succ kj8 =>
            have H := HA.out; clear HA; simp only [laws_FnMoveMul.j1] at H
            by_cases c53 : x63_8 = true
            · subst c53
              replace H := ifT H
              by_cases c54 : (t510 == t516) = true
              · rw [if_pos c54] at H
                have c54b0 : (t510 == t516) = true := c54
                (try (have c54b1 : decide (t510 = t516) = true := by simpa using c54))
                (try (have c54b2 : (t510 == t516) = true := by simpa using c54))
                clear c54; obtain ⟨t519, A55, H⟩ := bnd H; obtain rfl := Option.some.inj H; have hnb56 := NB511_504.out; have hnc56 := NB504_511.out; have hnb57 := NB511_505.out; have hnc57 := NB505_511.out; have hnb58 := NB511_517.out; have hnc58 := NB517_511.out; obtain ⟨hcz59_0, hcz59_1, hfz59_0, hfz59_1⟩ := bcf BK511; have hnb60 := NB517_504.out; have hnc60 := NB504_517.out; have hnb61 := NB517_505.out; have hnc61 := NB505_517.out; obtain ⟨hcz62_0, hcz62_1, hfz62_0, hfz62_1⟩ := bcf BK517
                go_wp2_with (first | (go_at_call 16; (with_reducible refine (laws_sameMove.calls kj8 _ _ t506 t509 _ _ t512 t515 t519 _ ?side1 ?side2 ?side3 ?side4 A55.out).mono ?_); (case side1 => exact U ((Kd.S_reads' HO_512000.out).2.2)); (case side2 => exact (Kd.S_reads' HO_512000.out).2.1); (case side3 => exact U ((Kd.S_reads' HO_518000.out).2.2)); (case side4 => exact (Kd.S_reads' HO_518000.out).2.1); rintro e w63 ⟨rfl, hb⟩; replace HO_5 := Aside0.mk (Kd.Q_below (U HO_5.out) hb); replace HO_505000 := Aside0.mk (Kd.V_below (U HO_505000.out) hb); replace HO_506000 := Aside0.mk (Kd.V_below (U HO_506000.out) hb); replace HO_512000 := Aside0.mk (Kd.S_below (U HO_512000.out) hb); replace HO_518000 := Aside0.mk (Kd.S_below (U HO_518000.out) hb); replace BK504 := bB BK504 hb; replace BK505 := bB BK505 hb; replace BK511 := bB BK511 hb; replace BK517 := bB BK517 hb; replace HB := BS hb; (try clear hb)))
                go_ret
                exact ⟨eR, BU⟩
              · rw [if_neg c54] at H
                exact absurd H (by simp)
            · replace c53 := Bool.eq_false_iff.mpr c53
              subst c53; replace H := ifF H
              by_cases c64 : 0 ≤ (t493.length : Int)
              · rw [if_pos c64] at H
                have c64b0 := eq_true c64; have c64b1 : decide (0 ≤ (t493.length : Int)) = true := decide_eq_true c64; clear c64
                by_cases c65 : ((t493.length : Int) : Int).toNat ≤ 35184372088832
                · rw [if_pos c65] at H
                  have c65b0 := eq_true c65; have c65b1 : decide (((t493.length : Int) : Int).toNat ≤ 35184372088832) = true := decide_eq_true c65; clear c65; obtain ⟨y520, hy520⟩ : ∃ y_ : List Int, y_ = (List.replicate ((t493.length : Int) : Int).toNat 0) := ⟨_, rfl⟩; replace H : (laws_FnMoveMul.l0 kj8 l1 t493 y520 0 t496 t499 t500 t503 t506 t509) = some r := rH hy520 H; have Ny520 := Aside0.mk hy520; clear hy520; have H' := Aside0.mk H; clear H
                  go_wp2_with (first | ((with_reducible refine gate_dst (N := 74) rfl ?_); (try (refine gate_guard (by rfl) ?_; dsimp only)); refine Kd.R_make (Kd.int .i64) _ 3 rfl (N := 74) rfl 23 _ _ rfl (t493.length : Int) rfl rfl Try.underlying23 (.int .i64 0) 8 info3 rfl (by decide) (by omega) 0 (ok := fun _ => True) (okp := fun _ => True) rfl (fun _ hk => hk) trivial (oD) (Nat.le_trans (Nat.mul_le_mul_right _ (oD : (t493.length : Int).toNat ≤ 35184372088832)) (by omega)) (Below.refl _ _) (Nat.le_refl _) ?_; intro v521 w66 ho67 hb hg_ hnew_; clear hg_ hnew_; (first | rw [← Ny520.out] at ho67 | (simp only [Int.reduceToNat] at ho67; rw [← Ny520.out] at ho67)); replace HO_505000 := Aside0.mk (Kd.V_elder' (U HO_505000.out) (Kd.R_base ho67) hb); replace HO_506000 := Aside0.mk (Kd.V_elder' (U HO_506000.out) (Kd.R_base ho67) hb); replace HO_512000 := Aside0.mk (Kd.S_elder' (U HO_512000.out) (Kd.R_base ho67) hb); replace HO_518000 := Aside0.mk (Kd.S_elder' (U HO_518000.out) (Kd.R_base ho67) hb); have HO522 := Aside0.mk (Kd.R_lower (Kd.R_new' ho67 (Kd.Q_lt (U HO_5.out))) (below_size BU)); replace HO_5 := Aside0.mk (Kd.Q_elder' (U HO_5.out) (Kd.R_base ho67) hb); replace BK504 := bB BK504 hb; replace BK505 := bB BK505 hb; replace BK511 := bB BK511 hb; replace BK517 := bB BK517 hb; replace HB := BS hb; clear hb ho67))
                  go_loopg [13] kj8 (fun kq v13 w' => ∃ (x12_3 : List Int) (x13_3 : Int), v13 = .int .i64 x13_3 ∧ Aside0 (laws_FnMoveMul.l0 kq l1 t493 x12_3 x13_3 t496 t499 t500 t503 t506 t509 = some r) ∧ Aside0 (kq ≤ kj8) ∧ Aside0 (Kd.Q (Kd.int .i64) 3 w' w.heap.size (fun k_ => some k_ ≠ (v521 : Value).ownBlock) (.slice Ao18 t493.length co18) t493) ∧ Aside0 (Kd.R (Kd.int .i64) 3 w' w.heap.size (fun k_ => some k_ ≠ ((.slice Ao18 t493.length co18) : Value).ownBlock) v521 x12_3) ∧ Aside0 (Kd.V (Kd.slice 3 (Kd.int .i64)) 23 w' w.heap.size (fun k_ => some k_ ≠ ((.slice Ao18 t493.length co18) : Value).ownBlock ∧ some k_ ≠ (v521 : Value).ownBlock ∧ some k_ ≠ ((.slice Ao21 t506.length co21) : Value).ownBlock ∧ some k_ ≠ ((.slice Ao29 t512.length co29) : Value).ownBlock ∧ k_ ≠ gb504 ∧ k_ ≠ gb505 ∧ k_ ≠ gb511 ∧ k_ ≠ gb517) (.slice Ao13 t496.length co13) t496) ∧ Aside0 (Kd.V (Kd.slice 3 (Kd.int .i64)) 23 w' w.heap.size (fun k_ => some k_ ≠ ((.slice Ao18 t493.length co18) : Value).ownBlock ∧ some k_ ≠ (v521 : Value).ownBlock ∧ some k_ ≠ ((.slice Ao21 t506.length co21) : Value).ownBlock ∧ some k_ ≠ ((.slice Ao29 t512.length co29) : Value).ownBlock ∧ k_ ≠ gb504 ∧ k_ ≠ gb505 ∧ k_ ≠ gb511 ∧ k_ ≠ gb517) (.slice Ao16 t500.length co16) t500) ∧ Aside0 (Kd.S (Kd.slice 3 (Kd.int .i64)) 23 w' w.heap.size (fun k_ => some k_ ≠ ((.slice Ao18 t493.length co18) : Value).ownBlock ∧ some k_ ≠ (v521 : Value).ownBlock ∧ some k_ ≠ ((.slice Ao29 t512.length co29) : Value).ownBlock) (.slice Ao21 t506.length co21) t506) ∧ Aside0 (Kd.S (Kd.slice 3 (Kd.int .i64)) 23 w' w.heap.size (fun k_ => some k_ ≠ ((.slice Ao18 t493.length co18) : Value).ownBlock ∧ some k_ ≠ (v521 : Value).ownBlock ∧ some k_ ≠ ((.slice Ao21 t506.length co21) : Value).ownBlock) (.slice Ao29 t512.length co29) t512) ∧ Aside0 (w'.heap[gb504]? = some (.cells #[(.slice Ao13 t496.length co13), .int .i64 t499] 27 (0, 0))) ∧ Aside0 (w'.heap[gb505]? = some (.cells #[(.slice Ao16 t500.length co16), .int .i64 t503] 27 (0, 0))) ∧ Aside0 (w'.heap[gb511]? = some (.cells #[(.slice Ao21 t506.length co21), .int .i64 t509] 27 (0, 0))) ∧ Aside0 (w'.heap[gb517]? = some (.cells #[(.slice Ao29 t512.length co29), .int .i64 t515] 27 (0, 0))) ∧ Aside0 (Below w.heap.size w w'))
                  case atStart => exact ⟨(y520), (0), sR, H', ⟨Nat.le_refl _⟩, ⟨Kd.QM HO_5.out (fun _ hk => hk.2)⟩, ⟨Kd.RM HO522.out (fun _ hk => hk.2)⟩, ⟨Kd.VM HO_505000.out (fun _ hk => ⟨hk.1.1, ⟨hk.2, ⟨hk.1.2.1, ⟨hk.1.2.2.1, ⟨hk.1.2.2.2.1, ⟨hk.1.2.2.2.2.1, ⟨hk.1.2.2.2.2.2.1, hk.1.2.2.2.2.2.2⟩⟩⟩⟩⟩⟩⟩)⟩, ⟨Kd.VM HO_506000.out (fun _ hk => ⟨hk.1.1, ⟨hk.2, ⟨hk.1.2.1, ⟨hk.1.2.2.1, ⟨hk.1.2.2.2.1, ⟨hk.1.2.2.2.2.1, ⟨hk.1.2.2.2.2.2.1, hk.1.2.2.2.2.2.2⟩⟩⟩⟩⟩⟩⟩)⟩, ⟨Kd.SM HO_512000.out (fun _ hk => ⟨hk.1.1, ⟨hk.2, hk.1.2⟩⟩)⟩, ⟨Kd.SM HO_518000.out (fun _ hk => ⟨hk.1.1, ⟨hk.2, hk.1.2⟩⟩)⟩, ⟨U BK504.out⟩, ⟨U BK505.out⟩, ⟨U BK511.out⟩, ⟨U BK517.out⟩, ⟨BU⟩⟩
                  case round =>
                    clear H'; (try clear c5); (try clear c53); (try clear c64); (try clear c64b0); (try clear c64b1); (try clear c65); (try clear c65b0); (try clear c65b1); (try clear hcz15_0); (try clear hcz15_1); (try clear hcz17_0); (try clear hcz17_1); (try clear hcz24_0); (try clear hcz24_1); (try clear hcz25_0); (try clear hcz25_1); (try clear hcz26_0); (try clear hcz26_1); (try clear hcz33_0); (try clear hcz33_1); (try clear hfz15_0); (try clear hfz15_1); (try clear hfz17_0); (try clear hfz17_1); (try clear hfz24_0); (try clear hfz24_1); (try clear hfz25_0); (try clear hfz25_1); (try clear hfz26_0); (try clear hfz26_1); (try clear hfz33_0); (try clear hfz33_1); obtain ⟨x12_3, x13_3, rfl, HA, HK3, HO_5, HO_12, HO_505000, HO_506000, HO_512000, HO_518000, BK504, BK505, BK511, BK517, HB⟩ := hrel; cases gk with
                    | zero => exact absurd HA.out (by simp [laws_FnMoveMul.l0])
                    | succ k3 =>
                      have H := HA.out; clear HA; simp only [laws_FnMoveMul.l0] at H
                      by_cases c68 : x13_3 < (x12_3.length : Int)
                      · rw [if_pos c68] at H
                        have c68b0 : decide (x13_3 < (x12_3.length : Int)) = true := decide_eq_true c68; clear c68
                        by_cases c69 : 0 ≤ x13_3
                        · rw [if_pos c69] at H
                          have c69b0 : decide (0 ≤ x13_3) = true := decide_eq_true c69; clear c69; obtain ⟨y523, hy523⟩ : ∃ y_ : List Int, y_ = (x12_3.set (x13_3 : Int).toNat (wrap64 (1 + (Int.tmod (wrap64 ((l1.length : Int) + x13_3)) 5)))) := ⟨_, rfl⟩; replace H : (laws_FnMoveMul.l0 k3 l1 t493 y523 (wrap64 (x13_3 + 1)) t496 t499 t500 t503 t506 t509) = some r := rH hy523 H; have Ny523 := Aside0.mk hy523; clear hy523; have H' := Aside0.mk H; clear H; obtain ⟨Ao71, co71, eo71⟩ := Kd.R_slice HO_12.out; subst eo71; have p70 : 0 ≤ (x13_3 : Int) := oD; have q70 : (x13_3 : Int) < ((x12_3.length : Int) : Int) := oD; obtain ⟨go70, co70, eo70, gb70, gl70, cl70, HG70⟩ := Kd.R_form HO_12.out (by omega)
                          (first | cases eo70 | (injection eo70 with ea_ en_ ec_; (first | subst ea_ | (injection ea_ with ea_; subst ea_)); subst ec_; clear en_))
                          have GB70 := Aside0.mk gb70; have GG70 := Aside0.mk HG70; clear gb70 gl70 HG70; obtain ⟨hx70_0, hf70_0⟩ := Kd.R_celln 0 HO_12.out (x13_3 : Int) p70 q70; replace p70 := eq_true p70; replace q70 := eq_true q70; have HP72 := Kd.R_putg HO_12.out (x13_3 : Int) (wrap64 (1 + (Int.tmod (wrap64 ((l1.length : Int) + x13_3)) 5)))
                          go_wp2_with (first | ((with_reducible refine gate_store (t := 3) (p := 89) rfl ?_); refine store_event (t := 3) (p := 89) (v := ?vo_w73) (w1 := (wr.setCell ⟨go70, (x13_3 : Int).toNat, none⟩ (.int .i64 (wrap64 (1 + (Int.tmod (wrap64 ((l1.length : Int) + x13_3)) 5)))))) ?hg ?ho ?hn ?hr ?_; (case ho => rfl); (case hg => rfl); (case hn => rfl); (case hr => first | (go_simp; done) | (go_simp; rfl)); intro w73 hw; have hg : wr.grownBy w73 (some go70) := (by rw [hw]; exact HP72.2); have hp_ : Kd.R (Kd.int .i64) 3 w73 w.heap.size (fun k_ => some k_ ≠ (.slice Ao18 t493.length co18 : Value).ownBlock) (.slice (some ⟨go70, 0, none⟩) x12_3.length co71) y523 := (by rw [hw, Ny523.out]; exact HP72.1); clear HP72; replace HO_5 := Aside0.mk (Kd.Q_after (v := (.slice (some ⟨go70, 0, none⟩) x12_3.length co71)) (v1 := (.slice (some ⟨go70, 0, none⟩) x12_3.length co71)) (ok := (fun _ => True)) (Kd.QM HO_5.out (fun _ hk => ⟨trivial, hk⟩)) hg (.inl rfl)); replace HO_505000 := Aside0.mk (Kd.V_afterv (v := (.slice (some ⟨go70, 0, none⟩) x12_3.length co71)) (v1 := (.slice (some ⟨go70, 0, none⟩) x12_3.length co71)) (ok := (fun k_ => some k_ ≠ (.slice Ao18 t493.length co18 : Value).ownBlock ∧ some k_ ≠ (.slice Ao21 t506.length co21 : Value).ownBlock ∧ some k_ ≠ (.slice Ao29 t512.length co29 : Value).ownBlock ∧ k_ ≠ gb504 ∧ k_ ≠ gb505 ∧ k_ ≠ gb511 ∧ k_ ≠ gb517)) (Kd.VM HO_505000.out (fun _ hk => ⟨⟨hk.1, ⟨hk.2.2.1, ⟨hk.2.2.2.1, ⟨hk.2.2.2.2.1, ⟨hk.2.2.2.2.2.1, ⟨hk.2.2.2.2.2.2.1, hk.2.2.2.2.2.2.2⟩⟩⟩⟩⟩⟩, hk.2.1⟩)) hg (.inl rfl)); replace HO_506000 := Aside0.mk (Kd.V_afterv (v := (.slice (some ⟨go70, 0, none⟩) x12_3.length co71)) (v1 := (.slice (some ⟨go70, 0, none⟩) x12_3.length co71)) (ok := (fun k_ => some k_ ≠ (.slice Ao18 t493.length co18 : Value).ownBlock ∧ some k_ ≠ (.slice Ao21 t506.length co21 : Value).ownBlock ∧ some k_ ≠ (.slice Ao29 t512.length co29 : Value).ownBlock ∧ k_ ≠ gb504 ∧ k_ ≠ gb505 ∧ k_ ≠ gb511 ∧ k_ ≠ gb517)) (Kd.VM HO_506000.out (fun _ hk => ⟨⟨hk.1, ⟨hk.2.2.1, ⟨hk.2.2.2.1, ⟨hk.2.2.2.2.1, ⟨hk.2.2.2.2.2.1, ⟨hk.2.2.2.2.2.2.1, hk.2.2.2.2.2.2.2⟩⟩⟩⟩⟩⟩, hk.2.1⟩)) hg (.inl rfl)); replace HO_512000 := Aside0.mk (Kd.S_after (v := (.slice (some ⟨go70, 0, none⟩) x12_3.length co71)) (v1 := (.slice (some ⟨go70, 0, none⟩) x12_3.length co71)) (ok := (fun k_ => some k_ ≠ (.slice Ao18 t493.length co18 : Value).ownBlock ∧ some k_ ≠ (.slice Ao29 t512.length co29 : Value).ownBlock)) (Kd.SM HO_512000.out (fun _ hk => ⟨⟨hk.1, hk.2.2⟩, hk.2.1⟩)) hg (.inl rfl)); replace HO_518000 := Aside0.mk (Kd.S_after (v := (.slice (some ⟨go70, 0, none⟩) x12_3.length co71)) (v1 := (.slice (some ⟨go70, 0, none⟩) x12_3.length co71)) (ok := (fun k_ => some k_ ≠ (.slice Ao18 t493.length co18 : Value).ownBlock ∧ some k_ ≠ (.slice Ao21 t506.length co21 : Value).ownBlock)) (Kd.SM HO_518000.out (fun _ hk => ⟨⟨hk.1, hk.2.2⟩, hk.2.1⟩)) hg (.inl rfl)); replace BK504 := bG BK504 hg (Kd.R_ne HO_12.out BK504.out (by decide)); replace BK505 := bG BK505 hg (Kd.R_ne HO_12.out BK505.out (by decide)); replace BK511 := bG BK511 hg (Kd.R_ne HO_12.out BK511.out (by decide)); replace BK517 := bG BK517 hg (Kd.R_ne HO_12.out BK517.out (by decide)); replace HO_12 := Aside0.mk (hp_); replace HB := Aside0.mk ((by rw [hw]; exact below_set (HB.out) GB70.out : Below w.heap.size w w73)); clear hg hw hp_))
                          go_roundg k3
                          case measure => have := HJ2.out; have := HJ8.out; have := HK3.out; omega
                          case rel => exact ⟨(y523), (wrap64 (x13_3 + 1)), sR, H', ⟨by have := HJ2.out; have := HJ8.out; have := HK3.out; omega⟩, ⟨Kd.QM HO_5.out (fun _ hk => hk.2)⟩, ⟨U HO_12.out⟩, ⟨Kd.VM HO_505000.out (fun _ hk => ⟨hk.1.1, ⟨hk.2, ⟨hk.1.2.1, ⟨hk.1.2.2.1, ⟨hk.1.2.2.2.1, ⟨hk.1.2.2.2.2.1, ⟨hk.1.2.2.2.2.2.1, hk.1.2.2.2.2.2.2⟩⟩⟩⟩⟩⟩⟩)⟩, ⟨Kd.VM HO_506000.out (fun _ hk => ⟨hk.1.1, ⟨hk.2, ⟨hk.1.2.1, ⟨hk.1.2.2.1, ⟨hk.1.2.2.2.1, ⟨hk.1.2.2.2.2.1, ⟨hk.1.2.2.2.2.2.1, hk.1.2.2.2.2.2.2⟩⟩⟩⟩⟩⟩⟩)⟩, ⟨Kd.SM HO_512000.out (fun _ hk => ⟨hk.1.1, ⟨hk.2, hk.1.2⟩⟩)⟩, ⟨Kd.SM HO_518000.out (fun _ hk => ⟨hk.1.1, ⟨hk.2, hk.1.2⟩⟩)⟩, ⟨U BK504.out⟩, ⟨U BK505.out⟩, ⟨U BK511.out⟩, ⟨U BK517.out⟩, ⟨BU⟩⟩
                        · rw [if_neg c69] at H
                          exact absurd H (by simp)
                      · rw [if_neg c68] at H
                        have c68b0 : decide (x13_3 < (x12_3.length : Int)) = false := decide_eq_false c68; clear c68; obtain ⟨⟨t524, t527, t528⟩, A74, H⟩ := bnd H
                        replace H : ((impl_MoveOn.f k3 t493 t506 t509 x12_3).bind fun bt529 => ((impl_MoveOn.f k3 t493 t496 t499 t524).bind fun bt534 => (if t528 = true then (if bt529.2.2 = true then ((impl_MoveSign.f k3 t493 t506 t509).bind fun t539 => ((impl_MoveSign.f k3 t493 t496 t499).bind fun t540 => ((impl_MoveSign.f k3 t493 t500 t503).bind fun t541 => (if t539 = (wrap64 (t540 * t541)) then (if t527 = 1 then (if bt534.2.2 = true then (if bt529.2.1 = bt534.2.1 then ((laws_sameInts.f k3 bt529.1 bt534.1).bind fun t542 => (some t542)) else (none)) else (some true)) else (some true)) else (none))))) else (none)) else (none)))) = some r := H
                        obtain ⟨⟨t529, t532, t533⟩, A75, H⟩ := bnd H
                        replace H : ((impl_MoveOn.f k3 t493 t496 t499 t524).bind fun bt534 => (if t528 = true then (if t533 = true then ((impl_MoveSign.f k3 t493 t506 t509).bind fun t539 => ((impl_MoveSign.f k3 t493 t496 t499).bind fun t540 => ((impl_MoveSign.f k3 t493 t500 t503).bind fun t541 => (if t539 = (wrap64 (t540 * t541)) then (if t527 = 1 then (if bt534.2.2 = true then (if t532 = bt534.2.1 then ((laws_sameInts.f k3 t529 bt534.1).bind fun t542 => (some t542)) else (none)) else (some true)) else (some true)) else (none))))) else (none)) else (none))) = some r := H
                        obtain ⟨⟨t534, t537, t538⟩, A76, H⟩ := bnd H
                        replace H : (if t528 = true then (if t533 = true then ((impl_MoveSign.f k3 t493 t506 t509).bind fun t539 => ((impl_MoveSign.f k3 t493 t496 t499).bind fun t540 => ((impl_MoveSign.f k3 t493 t500 t503).bind fun t541 => (if t539 = (wrap64 (t540 * t541)) then (if t527 = 1 then (if t538 = true then (if t532 = t537 then ((laws_sameInts.f k3 t529 t534).bind fun t542 => (some t542)) else (none)) else (some true)) else (some true)) else (none))))) else (none)) else (none)) = some r := H
                        by_cases c77 : t528 = true
                        · subst c77
                          replace H := ifT H
                          by_cases c78 : t533 = true
                          · subst c78
                            replace H := ifT H; obtain ⟨t539, A79, H⟩ := bnd H; obtain ⟨t540, A80, H⟩ := bnd H; obtain ⟨t541, A81, H⟩ := bnd H
                            by_cases c82 : t539 = (wrap64 (t540 * t541))
                            · rw [if_pos c82] at H
                              have c82b0 : (t539 == (wrap64 (t540 * t541))) = true := beq_iff_eq.mpr c82; have c82b1 : (t539 != (wrap64 (t540 * t541))) = false := bne_eq_false_iff_eq.mpr c82; clear c82
                              by_cases c83 : t527 = 1
                              · rw [if_pos c83] at H
                                have c83b0 : (t527 == 1) = true := beq_iff_eq.mpr c83; have c83b1 : (t527 != 1) = false := bne_eq_false_iff_eq.mpr c83; clear c83
                                by_cases c84 : t538 = true
                                · subst c84
                                  replace H := ifT H
                                  by_cases c85 : t532 = t537
                                  · rw [if_pos c85] at H
                                    have c85b0 : (t532 == t537) = true := beq_iff_eq.mpr c85; have c85b1 : (t532 != t537) = false := bne_eq_false_iff_eq.mpr c85; clear c85; obtain ⟨t542, A86, H⟩ := bnd H; obtain rfl := Option.some.inj H; obtain ⟨Ao87, co87, eo87⟩ := Kd.R_slice HO_12.out; subst eo87; have hnb88 := NB505_504.out; have hnc88 := NB504_505.out; have hnb89 := NB505_511.out; have hnc89 := NB511_505.out; have hnb90 := NB505_517.out; have hnc90 := NB517_505.out; obtain ⟨hcz91_0, hcz91_1, hfz91_0, hfz91_1⟩ := bcf BK505
                                    try go_wp2_with (first | ((with_reducible refine gate_callee (f := 23) rfl ?_); refine goesK (some 94) Try.func23 #[.slice Ao18 t493.length co18, .agg #[.slice Ao16 t500.length co16, .int .i64 t503], .slice Ao87 x12_3.length co87] ?_; (with_reducible refine (impl_MoveOn.calls k3 _ _ t493 _ _ t500 t503 _ _ x12_3 t524 t527 true _ ?side1 ?side2 ?side3 ?side4 ?side5 ?side6 A74.out).mono ?_); (case side1 => exact U ((Kd.Q_reads' HO_5.out).2.2)); (case side2 => exact (Kd.Q_reads' HO_5.out).2.1); (case side3 => exact U ((Kd.V_reads' HO_506000.out).2.2)); (case side4 => exact (Kd.V_reads' HO_506000.out).2.1); (case side5 => exact U ((Kd.R_reads' HO_12.out).2.2)); (case side6 => exact (Kd.R_reads' HO_12.out).2.1); rintro e w92 ⟨v525, rfl, ho0, hb⟩; refine ⟨_, rfl, ?_⟩; replace HO_505000 := Aside0.mk (Kd.V_elder' (U HO_505000.out) (Kd.R_base ho0) hb); replace HO_506000 := Aside0.mk (Kd.V_elder' (U HO_506000.out) (Kd.R_base ho0) hb); replace HO_512000 := Aside0.mk (Kd.S_elder' (U HO_512000.out) (Kd.R_base ho0) hb); replace HO_518000 := Aside0.mk (Kd.S_elder' (U HO_518000.out) (Kd.R_base ho0) hb); have HO526 := Aside0.mk (Kd.R_lower (Kd.R_new' (Kd.R_new' ho0 (Kd.Q_lt (U HO_5.out))) (Kd.R_lt (U HO_12.out))) (below_size BU)); replace HO_5 := Aside0.mk (Kd.Q_elder' (U HO_5.out) (Kd.R_base ho0) hb); replace HO_12 := Aside0.mk (Kd.R_elder' (U HO_12.out) (Kd.R_base ho0) hb); replace BK504 := bB BK504 hb; replace BK505 := bB BK505 hb; replace BK511 := bB BK511 hb; replace BK517 := bB BK517 hb; replace HB := BS hb; (try clear hb); (try clear ho0); have hnb93 := NB511_504.out; have hnc93 := NB504_511.out; have hnb94 := NB511_517.out; have hnc94 := NB517_511.out; obtain ⟨hcz95_0, hcz95_1, hfz95_0, hfz95_1⟩ := bcf BK511) | ((with_reducible refine gate_callee (f := 23) rfl ?_); refine goesK (some 102) Try.func23 #[.slice Ao18 t493.length co18, .agg #[.slice Ao21 t506.length co21, .int .i64 t509], .slice Ao87 x12_3.length co87] ?_; (with_reducible refine (impl_MoveOn.calls k3 _ _ t493 _ _ t506 t509 _ _ x12_3 t529 t532 true _ ?side1 ?side2 ?side3 ?side4 ?side5 ?side6 A75.out).mono ?_); (case side1 => exact U ((Kd.Q_reads' HO_5.out).2.2)); (case side2 => exact (Kd.Q_reads' HO_5.out).2.1); (case side3 => exact U ((Kd.S_reads' HO_512000.out).2.2)); (case side4 => exact (Kd.S_reads' HO_512000.out).2.1); (case side5 => exact U ((Kd.R_reads' HO_12.out).2.2)); (case side6 => exact (Kd.R_reads' HO_12.out).2.1); rintro e w96 ⟨v530, rfl, ho0, hb⟩; refine ⟨_, rfl, ?_⟩; replace HO_505000 := Aside0.mk (Kd.V_elder' (U HO_505000.out) (Kd.R_base ho0) hb); replace HO_506000 := Aside0.mk (Kd.V_elder' (U HO_506000.out) (Kd.R_base ho0) hb); replace HO_512000 := Aside0.mk (Kd.S_elder' (U HO_512000.out) (Kd.R_base ho0) hb); replace HO_518000 := Aside0.mk (Kd.S_elder' (U HO_518000.out) (Kd.R_base ho0) hb); have HO531 := Aside0.mk (Kd.R_lower (Kd.R_new' (Kd.R_new' (Kd.R_new' ho0 (Kd.Q_lt (U HO_5.out))) (Kd.R_lt (U HO_12.out))) (Kd.R_lt (U HO526.out))) (below_size BU)); replace HO_5 := Aside0.mk (Kd.Q_elder' (U HO_5.out) (Kd.R_base ho0) hb); replace HO_12 := Aside0.mk (Kd.R_elder' (U HO_12.out) (Kd.R_base ho0) hb); replace HO526 := Aside0.mk (Kd.R_elder' (U HO526.out) (Kd.R_base ho0) hb); replace BK504 := bB BK504 hb; replace BK505 := bB BK505 hb; replace BK511 := bB BK511 hb; replace BK517 := bB BK517 hb; replace HB := BS hb; (try clear hb); (try clear ho0); have hnb97 := NB504_517.out; have hnc97 := NB517_504.out; obtain ⟨hcz98_0, hcz98_1, hfz98_0, hfz98_1⟩ := bcf BK504; obtain ⟨Ao99, co99, eo99⟩ := Kd.R_slice HO526.out; subst eo99) | ((with_reducible refine gate_callee (f := 23) rfl ?_); refine goesK (some 110) Try.func23 #[.slice Ao18 t493.length co18, .agg #[.slice Ao13 t496.length co13, .int .i64 t499], .slice Ao99 t524.length co99] ?_; (with_reducible refine (impl_MoveOn.calls k3 _ _ t493 _ _ t496 t499 _ _ t524 t534 t537 true _ ?side1 ?side2 ?side3 ?side4 ?side5 ?side6 A76.out).mono ?_); (case side1 => exact U ((Kd.Q_reads' HO_5.out).2.2)); (case side2 => exact (Kd.Q_reads' HO_5.out).2.1); (case side3 => exact U ((Kd.V_reads' HO_505000.out).2.2)); (case side4 => exact (Kd.V_reads' HO_505000.out).2.1); (case side5 => exact U ((Kd.R_reads' HO526.out).2.2)); (case side6 => exact (Kd.R_reads' HO526.out).2.1); rintro e w100 ⟨v535, rfl, ho0, hb⟩; refine ⟨_, rfl, ?_⟩; replace HO_505000 := Aside0.mk (Kd.V_elder' (U HO_505000.out) (Kd.R_base ho0) hb); replace HO_506000 := Aside0.mk (Kd.V_elder' (U HO_506000.out) (Kd.R_base ho0) hb); replace HO_512000 := Aside0.mk (Kd.S_elder' (U HO_512000.out) (Kd.R_base ho0) hb); replace HO_518000 := Aside0.mk (Kd.S_elder' (U HO_518000.out) (Kd.R_base ho0) hb); have HO536 := Aside0.mk (Kd.R_lower (Kd.R_new' (Kd.R_new' (Kd.R_new' (Kd.R_new' ho0 (Kd.Q_lt (U HO_5.out))) (Kd.R_lt (U HO_12.out))) (Kd.R_lt (U HO526.out))) (Kd.R_lt (U HO531.out))) (below_size BU)); replace HO_5 := Aside0.mk (Kd.Q_elder' (U HO_5.out) (Kd.R_base ho0) hb); replace HO_12 := Aside0.mk (Kd.R_elder' (U HO_12.out) (Kd.R_base ho0) hb); replace HO526 := Aside0.mk (Kd.R_elder' (U HO526.out) (Kd.R_base ho0) hb); replace HO531 := Aside0.mk (Kd.R_elder' (U HO531.out) (Kd.R_base ho0) hb); replace BK504 := bB BK504 hb; replace BK505 := bB BK505 hb; replace BK511 := bB BK511 hb; replace BK517 := bB BK517 hb; replace HB := BS hb; (try clear hb); (try clear ho0)))
                                    replace HO_5 := Aside0.mk (Kd.Q_drew HO_5.out); replace HO_12 := Aside0.mk (Kd.R_drew HO_12.out); replace HO_505000 := Aside0.mk (Kd.V_drew HO_505000.out); replace HO_506000 := Aside0.mk (Kd.V_drew HO_506000.out); replace HO_512000 := Aside0.mk (Kd.S_drew HO_512000.out); replace HO_518000 := Aside0.mk (Kd.S_drew HO_518000.out); replace HO526 := Aside0.mk (Kd.R_drew HO526.out); replace HO531 := Aside0.mk (Kd.R_drew HO531.out); replace HO536 := Aside0.mk (Kd.R_drew HO536.out); replace BK504 := Aside0.mk (blk_drew BK504.out); replace BK505 := Aside0.mk (blk_drew BK505.out); replace BK511 := Aside0.mk (blk_drew BK511.out); replace BK517 := Aside0.mk (blk_drew BK517.out); replace HB := Aside0.mk (below_drew1 HB.out)
                                    refine start_ (n := 36) (S := fun w' => w'.cell? ⟨gb511, 0, none⟩ = some (.slice Ao21 t506.length co21) ∧ w'.cell? ⟨gb511, 1, none⟩ = some (.int .i64 t509) ∧ w'.cell? ⟨gb504, 0, none⟩ = some (.slice Ao13 t496.length co13) ∧ w'.cell? ⟨gb504, 1, none⟩ = some (.int .i64 t499) ∧ w'.cell? ⟨gb505, 0, none⟩ = some (.slice Ao16 t500.length co16) ∧ w'.cell? ⟨gb505, 1, none⟩ = some (.int .i64 t503)) (ds := []) #[false, false, false, false, false, false, false, false, false, false, false, false, false, false, false, false, false, false, false, false, false, false, false, false, false, false, false, false, false, false, false, false, false, false, false, false] (by kernel_rfl) rfl rfl ⟨(blk_cell BK511.out 0).trans rfl, (blk_cell BK511.out 1).trans rfl, (blk_cell BK504.out 0).trans rfl, (blk_cell BK504.out 1).trans rfl, (blk_cell BK505.out 0).trans rfl, (blk_cell BK505.out 1).trans rfl⟩ (fun hHeld => ?_); refine with_tabW laws_FnMoveMul.tab16 laws_FnMoveMul.bits16 (fun HT_ HW_ => ?_)
                                    generalize w100.drew = w101 at HO_5 HO_12 HO_505000 HO_506000 HO_512000 HO_518000 HO526 HO531 HO536 BK504 BK505 BK511 BK517 HB hHeld ⊢
                                    refine pure_ (i := 0) (N := some 114) (v := ?_) (a' := ?_) #[true, false, false, false, false, false, false, false, false, false, false, false, false, false, false, false, false, false, false, false, false, false, false, false, false, false, false, false, false, false, false, false, false, false, false, false] rfl rfl (any_of HT_.out (by kernel_rfl)) (fun _ _ _ h => h) (Or.inl ⟨by rfl, ?_⟩) ?_ ?_
                                    rotate_left
                                    · intro w'
                                      go_simp
                                      with_reducible rfl
                                    rotate_left
                                    · simp only [Act.put, List.setIfInBounds_toArray, List.set_cons_zero, List.set_cons_succ, i64_w, i32_w]
                                      rfl
                                    refine pure_ (i := 1) (N := some 115) (v := ?_) (a' := ?_) #[true, true, false, false, false, false, false, false, false, false, false, false, false, false, false, false, false, false, false, false, false, false, false, false, false, false, false, false, false, false, false, false, false, false, false, false] rfl rfl (any_of HT_.out (by kernel_rfl)) (fun _ _ _ h => h) (Or.inl ⟨by rfl, ?_⟩) ?_ ?_
                                    rotate_left
                                    · intro w'
                                      go_simp
                                      with_reducible rfl
                                    rotate_left
                                    · simp only [Act.put, List.setIfInBounds_toArray, List.set_cons_zero, List.set_cons_succ, i64_w, i32_w]
                                      rfl
                                    refine pure_ (i := 2) (N := some 116) (v := ?_) (a' := ?_) #[true, true, true, false, false, false, false, false, false, false, false, false, false, false, false, false, false, false, false, false, false, false, false, false, false, false, false, false, false, false, false, false, false, false, false, false] rfl rfl (any_of HT_.out (by kernel_rfl)) (fun _ _ _ h => h) (Or.inl ⟨by rfl, ?_⟩) ?_ ?_
                                    rotate_left
                                    · intro w'
                                      go_simp
                                      with_reducible rfl
                                    rotate_left
                                    · simp only [Act.put, List.setIfInBounds_toArray, List.set_cons_zero, List.set_cons_succ, i64_w, i32_w]
                                      rfl
                                    refine pure_ (i := 3) (N := some 117) (v := ?_) (a' := ?_) #[true, true, true, true, false, false, false, false, false, false, false, false, false, false, false, false, false, false, false, false, false, false, false, false, false, false, false, false, false, false, false, false, false, false, false, false] rfl rfl (any_of HT_.out (by kernel_rfl)) (fun _ _ _ h => h) (Or.inl ⟨by rfl, ?_⟩) ?_ ?_
                                    rotate_left
                                    · intro w'
                                      go_simp
                                      with_reducible rfl
                                    rotate_left
                                    · simp only [Act.put, List.setIfInBounds_toArray, List.set_cons_zero, List.set_cons_succ, i64_w, i32_w]
                                      rfl
                                    refine pure_ (i := 4) (N := some 118) (v := ?_) (a' := ?_) #[true, true, true, true, true, false, false, false, false, false, false, false, false, false, false, false, false, false, false, false, false, false, false, false, false, false, false, false, false, false, false, false, false, false, false, false] rfl rfl (any_of HT_.out (by kernel_rfl)) (fun _ _ _ h => h) (Or.inl ⟨by rfl, ?_⟩) ?_ ?_
                                    rotate_left
                                    · intro w'
                                      go_simp
                                      with_reducible rfl
                                    rotate_left
                                    · simp only [Act.put, List.setIfInBounds_toArray, List.set_cons_zero, List.set_cons_succ, i64_w, i32_w]
                                      rfl
                                    refine pure_ (i := 5) (N := some 119) (v := ?_) (a' := ?_) #[true, true, true, true, true, true, false, false, false, false, false, false, false, false, false, false, false, false, false, false, false, false, false, false, false, false, false, false, false, false, false, false, false, false, false, false] rfl rfl (any_of HT_.out (by kernel_rfl)) (fun _ _ _ h => h) (Or.inl ⟨by rfl, ?_⟩) ?_ ?_
                                    rotate_left
                                    · intro w'
                                      go_simp
                                      with_reducible rfl
                                    rotate_left
                                    · simp only [Act.put, List.setIfInBounds_toArray, List.set_cons_zero, List.set_cons_succ, i64_w, i32_w]
                                      rfl
                                    refine pure_ (i := 8) (N := some 122) (v := ?_) (a' := ?_) #[true, true, true, true, true, true, false, false, true, false, false, false, false, false, false, false, false, false, false, false, false, false, false, false, false, false, false, false, false, false, false, false, false, false, false, false] rfl rfl (any_of HT_.out (by kernel_rfl)) (fun _ _ _ h => h) (Or.inl ⟨by rfl, ?_⟩) ?_ ?_
                                    rotate_left
                                    · intro w'
                                      go_simp
                                      with_reducible rfl
                                    rotate_left
                                    · simp only [Act.put, List.setIfInBounds_toArray, List.set_cons_zero, List.set_cons_succ, i64_w, i32_w]
                                      rfl
                                    refine pure_ (i := 11) (N := some 125) (v := ?_) (a' := ?_) #[true, true, true, true, true, true, false, false, true, false, false, true, false, false, false, false, false, false, false, false, false, false, false, false, false, false, false, false, false, false, false, false, false, false, false, false] rfl rfl (any_of HT_.out (by kernel_rfl)) (fun _ _ _ h => h) (Or.inl ⟨by rfl, ?_⟩) ?_ ?_
                                    rotate_left
                                    · intro w'
                                      go_simp
                                      with_reducible rfl
                                    rotate_left
                                    · simp only [Act.put, List.setIfInBounds_toArray, List.set_cons_zero, List.set_cons_succ, i64_w, i32_w]
                                      rfl
                                    refine take_ (i := 6) (N := some 120) (v := ?_) (a' := ?_) #[true, true, true, true, true, true, true, false, true, false, false, true, false, false, false, false, false, false, false, false, false, false, false, false, false, false, false, false, false, false, false, false, false, false, false, false] rfl rfl (take_ofW HT_.out HW_.out (by kernel_rfl)) (fun _ _ _ h => h) (Or.inl ⟨by rfl, ?_⟩) hHeld ?_ ?_
                                    rotate_left
                                    · rintro w' ⟨s0, s1, s2, s3, s4, s5⟩
                                      go_simp
                                      with_reducible rfl
                                    rotate_left
                                    · simp only [Act.put, List.setIfInBounds_toArray, List.set_cons_zero, List.set_cons_succ, i64_w, i32_w]
                                      rfl
                                    refine take_ (i := 9) (N := some 123) (v := ?_) (a' := ?_) #[true, true, true, true, true, true, true, false, true, true, false, true, false, false, false, false, false, false, false, false, false, false, false, false, false, false, false, false, false, false, false, false, false, false, false, false] rfl rfl (take_ofW HT_.out HW_.out (by kernel_rfl)) (fun _ _ _ h => h) (Or.inl ⟨by rfl, ?_⟩) hHeld ?_ ?_
                                    rotate_left
                                    · rintro w' ⟨s0, s1, s2, s3, s4, s5⟩
                                      go_simp
                                      with_reducible rfl
                                    rotate_left
                                    · simp only [Act.put, List.setIfInBounds_toArray, List.set_cons_zero, List.set_cons_succ, i64_w, i32_w]
                                      rfl
                                    refine take_ (i := 12) (N := some 126) (v := ?_) (a' := ?_) #[true, true, true, true, true, true, true, false, true, true, false, true, true, false, false, false, false, false, false, false, false, false, false, false, false, false, false, false, false, false, false, false, false, false, false, false] rfl rfl (take_ofW HT_.out HW_.out (by kernel_rfl)) (fun _ _ _ h => h) (Or.inl ⟨by rfl, ?_⟩) hHeld ?_ ?_
                                    rotate_left
                                    · rintro w' ⟨s0, s1, s2, s3, s4, s5⟩
                                      go_simp
                                      with_reducible rfl
                                    rotate_left
                                    · simp only [Act.put, List.setIfInBounds_toArray, List.set_cons_zero, List.set_cons_succ, i64_w, i32_w]
                                      rfl
                                    refine one_ (i := 7) (N := some 121) #[true, true, true, true, true, true, true, true, true, true, false, true, true, false, false, false, false, false, false, false, false, false, false, false, false, false, false, false, false, false, false, false, false, false, false, false] rfl rfl (one_of HT_.out (by kernel_rfl)) (by decide) (fun K hK => ?_)
                                    refine goes_ Try.func20 (by kernel_rfl) rfl #[.slice Ao18 t493.length co18, .agg #[.slice Ao21 t506.length co21, .int .i64 t509]] (by rfl) rfl rfl (by (try simp only [List.map_toArray, List.map_cons, List.map_nil]); first | done | rfl | (simp only [List.length_drop, List.length_take]; rfl)) ?_
                                    with_reducible refine (impl_MoveSign.calls k3 _ _ t493 _ _ t506 t509 t539 _ ?side1 ?side2 ?side3 ?side4 A79.out).mono ?_
                                    (case side1 => exact U ((Kd.Q_reads' HO_5.out).2.2))
                                    (case side2 => exact (Kd.Q_reads' HO_5.out).2.1)
                                    (case side3 => exact U ((Kd.S_reads' HO_512000.out).2.2))
                                    (case side4 => exact (Kd.S_reads' HO_512000.out).2.1)
                                    rintro e w102 ⟨rfl, hb⟩
                                    refine ⟨_, rfl, ?_⟩
                                    replace HO_5 := Aside0.mk (Kd.Q_below (U HO_5.out) hb); replace HO_12 := Aside0.mk (Kd.R_below (U HO_12.out) hb); replace HO_505000 := Aside0.mk (Kd.V_below (U HO_505000.out) hb); replace HO_506000 := Aside0.mk (Kd.V_below (U HO_506000.out) hb); replace HO_512000 := Aside0.mk (Kd.S_below (U HO_512000.out) hb); replace HO_518000 := Aside0.mk (Kd.S_below (U HO_518000.out) hb); replace HO526 := Aside0.mk (Kd.R_below (U HO526.out) hb); replace HO531 := Aside0.mk (Kd.R_below (U HO531.out) hb); replace HO536 := Aside0.mk (Kd.R_below (U HO536.out) hb); replace BK504 := bB BK504 hb; replace BK505 := bB BK505 hb; replace BK511 := bB BK511 hb; replace BK517 := bB BK517 hb; replace HB := BS hb; (try clear hb); (try clear hb2); (try clear hk); (try clear hi)
                                    refine hK.out _ _ ⟨(blk_cell BK511.out 0).trans rfl, (blk_cell BK511.out 1).trans rfl, (blk_cell BK504.out 0).trans rfl, (blk_cell BK504.out 1).trans rfl, (blk_cell BK505.out 0).trans rfl, (blk_cell BK505.out 1).trans rfl⟩ (fun hHeld => ?_)
                                    clear hK K
                                    refine norm_ (a' := ?_) ?_ ?_
                                    rotate_left
                                    · show Act.put _ (some 121) _ = _
                                      simp only [Act.put, List.setIfInBounds_toArray, List.set_cons_zero, List.set_cons_succ, i64_w, i32_w]
                                      rfl
                                    refine one_ (i := 10) (N := some 124) #[true, true, true, true, true, true, true, true, true, true, true, true, true, false, false, false, false, false, false, false, false, false, false, false, false, false, false, false, false, false, false, false, false, false, false, false] rfl rfl (one_of HT_.out (by kernel_rfl)) (by decide) (fun K hK => ?_)
                                    refine goes_ Try.func20 (by kernel_rfl) rfl #[.slice Ao18 t493.length co18, .agg #[.slice Ao13 t496.length co13, .int .i64 t499]] (by rfl) rfl rfl (by (try simp only [List.map_toArray, List.map_cons, List.map_nil]); first | done | rfl | (simp only [List.length_drop, List.length_take]; rfl)) ?_
                                    with_reducible refine (impl_MoveSign.calls k3 _ _ t493 _ _ t496 t499 t540 _ ?side1 ?side2 ?side3 ?side4 A80.out).mono ?_
                                    (case side1 => exact U ((Kd.Q_reads' HO_5.out).2.2))
                                    (case side2 => exact (Kd.Q_reads' HO_5.out).2.1)
                                    (case side3 => exact U ((Kd.V_reads' HO_505000.out).2.2))
                                    (case side4 => exact (Kd.V_reads' HO_505000.out).2.1)
                                    rintro e w103 ⟨rfl, hb⟩
                                    refine ⟨_, rfl, ?_⟩
                                    replace HO_5 := Aside0.mk (Kd.Q_below (U HO_5.out) hb); replace HO_12 := Aside0.mk (Kd.R_below (U HO_12.out) hb); replace HO_505000 := Aside0.mk (Kd.V_below (U HO_505000.out) hb); replace HO_506000 := Aside0.mk (Kd.V_below (U HO_506000.out) hb); replace HO_512000 := Aside0.mk (Kd.S_below (U HO_512000.out) hb); replace HO_518000 := Aside0.mk (Kd.S_below (U HO_518000.out) hb); replace HO526 := Aside0.mk (Kd.R_below (U HO526.out) hb); replace HO531 := Aside0.mk (Kd.R_below (U HO531.out) hb); replace HO536 := Aside0.mk (Kd.R_below (U HO536.out) hb); replace BK504 := bB BK504 hb; replace BK505 := bB BK505 hb; replace BK511 := bB BK511 hb; replace BK517 := bB BK517 hb; replace HB := BS hb; (try clear hb); (try clear hb2); (try clear hk); (try clear hi)
                                    refine hK.out _ _ ⟨(blk_cell BK511.out 0).trans rfl, (blk_cell BK511.out 1).trans rfl, (blk_cell BK504.out 0).trans rfl, (blk_cell BK504.out 1).trans rfl, (blk_cell BK505.out 0).trans rfl, (blk_cell BK505.out 1).trans rfl⟩ (fun hHeld => ?_)
                                    clear hK K
                                    refine norm_ (a' := ?_) ?_ ?_
                                    rotate_left
                                    · show Act.put _ (some 124) _ = _
                                      simp only [Act.put, List.setIfInBounds_toArray, List.set_cons_zero, List.set_cons_succ, i64_w, i32_w]
                                      rfl
                                    refine one_ (i := 13) (N := some 127) #[true, true, true, true, true, true, true, true, true, true, true, true, true, true, false, false, false, false, false, false, false, false, false, false, false, false, false, false, false, false, false, false, false, false, false, false] rfl rfl (one_of HT_.out (by kernel_rfl)) (by decide) (fun K hK => ?_)
                                    refine goes_ Try.func20 (by kernel_rfl) rfl #[.slice Ao18 t493.length co18, .agg #[.slice Ao16 t500.length co16, .int .i64 t503]] (by rfl) rfl rfl (by (try simp only [List.map_toArray, List.map_cons, List.map_nil]); first | done | rfl | (simp only [List.length_drop, List.length_take]; rfl)) ?_
                                    with_reducible refine (impl_MoveSign.calls k3 _ _ t493 _ _ t500 t503 t541 _ ?side1 ?side2 ?side3 ?side4 A81.out).mono ?_
                                    (case side1 => exact U ((Kd.Q_reads' HO_5.out).2.2))
                                    (case side2 => exact (Kd.Q_reads' HO_5.out).2.1)
                                    (case side3 => exact U ((Kd.V_reads' HO_506000.out).2.2))
                                    (case side4 => exact (Kd.V_reads' HO_506000.out).2.1)
                                    rintro e w104 ⟨rfl, hb⟩
                                    refine ⟨_, rfl, ?_⟩
                                    replace HO_5 := Aside0.mk (Kd.Q_below (U HO_5.out) hb); replace HO_12 := Aside0.mk (Kd.R_below (U HO_12.out) hb); replace HO_505000 := Aside0.mk (Kd.V_below (U HO_505000.out) hb); replace HO_506000 := Aside0.mk (Kd.V_below (U HO_506000.out) hb); replace HO_512000 := Aside0.mk (Kd.S_below (U HO_512000.out) hb); replace HO_518000 := Aside0.mk (Kd.S_below (U HO_518000.out) hb); replace HO526 := Aside0.mk (Kd.R_below (U HO526.out) hb); replace HO531 := Aside0.mk (Kd.R_below (U HO531.out) hb); replace HO536 := Aside0.mk (Kd.R_below (U HO536.out) hb); replace BK504 := bB BK504 hb; replace BK505 := bB BK505 hb; replace BK511 := bB BK511 hb; replace BK517 := bB BK517 hb; replace HB := BS hb; (try clear hb); (try clear hb2); (try clear hk); (try clear hi); obtain ⟨Ao105, co105, eo105⟩ := Kd.R_slice HO531.out
                                    (first | subst eo105 | (injection eo105 with f1_ f2_ f3_; have f4_ := f1_.symm; have f5_ := f3_.symm; clear f1_ f2_ f3_; subst f4_; subst f5_))
                                    obtain ⟨Ao106, co106, eo106⟩ := Kd.R_slice HO536.out
                                    (first | subst eo106 | (injection eo106 with f1_ f2_ f3_; have f4_ := f1_.symm; have f5_ := f3_.symm; clear f1_ f2_ f3_; subst f4_; subst f5_))
                                    refine hK.out _ _ ⟨(blk_cell BK511.out 0).trans rfl, (blk_cell BK511.out 1).trans rfl, (blk_cell BK504.out 0).trans rfl, (blk_cell BK504.out 1).trans rfl, (blk_cell BK505.out 0).trans rfl, (blk_cell BK505.out 1).trans rfl⟩ (fun hHeld => ?_)
                                    clear hK K
                                    refine norm_ (a' := ?_) ?_ ?_
                                    rotate_left
                                    · show Act.put _ (some 127) _ = _
                                      simp only [Act.put, List.setIfInBounds_toArray, List.set_cons_zero, List.set_cons_succ, i64_w, i32_w]
                                      rfl
                                    refine pure_ (i := 14) (N := some 128) (v := ?_) (a' := ?_) #[true, true, true, true, true, true, true, true, true, true, true, true, true, true, true, false, false, false, false, false, false, false, false, false, false, false, false, false, false, false, false, false, false, false, false, false] rfl rfl (any_of HT_.out (by kernel_rfl)) (fun _ _ _ h => h) (Or.inl ⟨by rfl, ?_⟩) ?_ ?_
                                    rotate_left
                                    · intro w'
                                      go_simp
                                      with_reducible rfl
                                    rotate_left
                                    · simp only [Act.put, List.setIfInBounds_toArray, List.set_cons_zero, List.set_cons_succ, i64_w, i32_w]
                                      rfl
                                    refine pure_ (i := 15) (N := some 129) (v := ?_) (a' := ?_) #[true, true, true, true, true, true, true, true, true, true, true, true, true, true, true, true, false, false, false, false, false, false, false, false, false, false, false, false, false, false, false, false, false, false, false, false] rfl rfl (any_of HT_.out (by kernel_rfl)) (fun _ _ _ h => h) (Or.inl ⟨by rfl, ?_⟩) ?_ ?_
                                    rotate_left
                                    · intro w'
                                      go_simp
                                      with_reducible rfl
                                    rotate_left
                                    · simp only [Act.put, List.setIfInBounds_toArray, List.set_cons_zero, List.set_cons_succ, i64_w, i32_w]
                                      rfl
                                    refine pure_ (i := 16) (N := some 130) (v := ?_) (a' := ?_) #[true, true, true, true, true, true, true, true, true, true, true, true, true, true, true, true, true, false, false, false, false, false, false, false, false, false, false, false, false, false, false, false, false, false, false, false] rfl rfl (any_of HT_.out (by kernel_rfl)) (fun _ _ _ h => h) (Or.inl ⟨by rfl, ?_⟩) ?_ ?_
                                    rotate_left
                                    · intro w'
                                      go_simp
                                      with_reducible rfl
                                    rotate_left
                                    · simp only [Act.put, List.setIfInBounds_toArray, List.set_cons_zero, List.set_cons_succ, i64_w, i32_w]
                                      rfl
                                    refine pure_ (i := 17) (N := some 131) (v := ?_) (a' := ?_) #[true, true, true, true, true, true, true, true, true, true, true, true, true, true, true, true, true, true, false, false, false, false, false, false, false, false, false, false, false, false, false, false, false, false, false, false] rfl rfl (any_of HT_.out (by kernel_rfl)) (fun _ _ _ h => h) (Or.inl ⟨by rfl, ?_⟩) ?_ ?_
                                    rotate_left
                                    · intro w'
                                      go_simp
                                      with_reducible rfl
                                    rotate_left
                                    · simp only [Act.put, List.setIfInBounds_toArray, List.set_cons_zero, List.set_cons_succ, i64_w, i32_w]
                                      rfl
                                    refine pure_ (i := 18) (N := some 132) (v := ?_) (a' := ?_) #[true, true, true, true, true, true, true, true, true, true, true, true, true, true, true, true, true, true, true, false, false, false, false, false, false, false, false, false, false, false, false, false, false, false, false, false] rfl rfl (any_of HT_.out (by kernel_rfl)) (fun _ _ _ h => h) (Or.inl ⟨by rfl, ?_⟩) ?_ ?_
                                    rotate_left
                                    · intro w'
                                      go_simp
                                      with_reducible rfl
                                    rotate_left
                                    · simp only [Act.put, List.setIfInBounds_toArray, List.set_cons_zero, List.set_cons_succ, i64_w, i32_w]
                                      rfl
                                    refine pure_ (i := 19) (N := some 133) (v := ?_) (a' := ?_) #[true, true, true, true, true, true, true, true, true, true, true, true, true, true, true, true, true, true, true, true, false, false, false, false, false, false, false, false, false, false, false, false, false, false, false, false] rfl rfl (any_of HT_.out (by kernel_rfl)) (fun _ _ _ h => h) (Or.inl ⟨by rfl, ?_⟩) ?_ ?_
                                    rotate_left
                                    · intro w'
                                      go_simp
                                      with_reducible rfl
                                    rotate_left
                                    · simp only [Act.put, List.setIfInBounds_toArray, List.set_cons_zero, List.set_cons_succ, i64_w, i32_w]
                                      rfl
                                    refine pure_ (i := 20) (N := some 134) (v := ?_) (a' := ?_) #[true, true, true, true, true, true, true, true, true, true, true, true, true, true, true, true, true, true, true, true, true, false, false, false, false, false, false, false, false, false, false, false, false, false, false, false] rfl rfl (any_of HT_.out (by kernel_rfl)) (fun _ _ _ h => h) (Or.inl ⟨by rfl, ?_⟩) ?_ ?_
                                    rotate_left
                                    · intro w'
                                      go_simp
                                      with_reducible rfl
                                    rotate_left
                                    · simp only [Act.put, List.setIfInBounds_toArray, List.set_cons_zero, List.set_cons_succ, i64_w, i32_w]
                                      rfl
                                    refine pure_ (i := 21) (N := some 135) (v := ?_) (a' := ?_) #[true, true, true, true, true, true, true, true, true, true, true, true, true, true, true, true, true, true, true, true, true, true, false, false, false, false, false, false, false, false, false, false, false, false, false, false] rfl rfl (any_of HT_.out (by kernel_rfl)) (fun _ _ _ h => h) (Or.inl ⟨by rfl, ?_⟩) ?_ ?_
                                    rotate_left
                                    · intro w'
                                      go_simp
                                      with_reducible rfl
                                    rotate_left
                                    · simp only [Act.put, List.setIfInBounds_toArray, List.set_cons_zero, List.set_cons_succ, i64_w, i32_w]
                                      rfl
                                    refine pure_ (i := 22) (N := some 136) (v := ?_) (a' := ?_) #[true, true, true, true, true, true, true, true, true, true, true, true, true, true, true, true, true, true, true, true, true, true, true, false, false, false, false, false, false, false, false, false, false, false, false, false] rfl rfl (any_of HT_.out (by kernel_rfl)) (fun _ _ _ h => h) (Or.inl ⟨by rfl, ?_⟩) ?_ ?_
                                    rotate_left
                                    · intro w'
                                      go_simp
                                      with_reducible rfl
                                    rotate_left
                                    · simp only [Act.put, List.setIfInBounds_toArray, List.set_cons_zero, List.set_cons_succ, i64_w, i32_w]
                                      rfl
                                    refine pure_ (i := 23) (N := some 137) (v := ?_) (a' := ?_) #[true, true, true, true, true, true, true, true, true, true, true, true, true, true, true, true, true, true, true, true, true, true, true, true, false, false, false, false, false, false, false, false, false, false, false, false] rfl rfl (any_of HT_.out (by kernel_rfl)) (fun _ _ _ h => h) (Or.inl ⟨by rfl, ?_⟩) ?_ ?_
                                    rotate_left
                                    · intro w'
                                      go_simp
                                      with_reducible rfl
                                    rotate_left
                                    · simp only [Act.put, List.setIfInBounds_toArray, List.set_cons_zero, List.set_cons_succ, i64_w, i32_w]
                                      rfl
                                    refine pure_ (i := 24) (N := some 138) (v := ?_) (a' := ?_) #[true, true, true, true, true, true, true, true, true, true, true, true, true, true, true, true, true, true, true, true, true, true, true, true, true, false, false, false, false, false, false, false, false, false, false, false] rfl rfl (any_of HT_.out (by kernel_rfl)) (fun _ _ _ h => h) (Or.inl ⟨by rfl, ?_⟩) ?_ ?_
                                    rotate_left
                                    · intro w'
                                      go_simp
                                      with_reducible rfl
                                    rotate_left
                                    · simp only [Act.put, List.setIfInBounds_toArray, List.set_cons_zero, List.set_cons_succ, i64_w, i32_w]
                                      rfl
                                    refine pure_ (i := 25) (N := some 139) (v := ?_) (a' := ?_) #[true, true, true, true, true, true, true, true, true, true, true, true, true, true, true, true, true, true, true, true, true, true, true, true, true, true, false, false, false, false, false, false, false, false, false, false] rfl rfl (any_of HT_.out (by kernel_rfl)) (fun _ _ _ h => h) (Or.inl ⟨by rfl, ?_⟩) ?_ ?_
                                    rotate_left
                                    · intro w'
                                      go_simp
                                      with_reducible rfl
                                    rotate_left
                                    · simp only [Act.put, List.setIfInBounds_toArray, List.set_cons_zero, List.set_cons_succ, i64_w, i32_w]
                                      rfl
                                    refine pure_ (i := 26) (N := some 140) (v := ?_) (a' := ?_) #[true, true, true, true, true, true, true, true, true, true, true, true, true, true, true, true, true, true, true, true, true, true, true, true, true, true, true, false, false, false, false, false, false, false, false, false] rfl rfl (any_of HT_.out (by kernel_rfl)) (fun _ _ _ h => h) (Or.inl ⟨by rfl, ?_⟩) ?_ ?_
                                    rotate_left
                                    · intro w'
                                      go_simp
                                      with_reducible rfl
                                    rotate_left
                                    · simp only [Act.put, List.setIfInBounds_toArray, List.set_cons_zero, List.set_cons_succ, i64_w, i32_w]
                                      rfl
                                    refine pure_ (i := 27) (N := some 141) (v := ?_) (a' := ?_) #[true, true, true, true, true, true, true, true, true, true, true, true, true, true, true, true, true, true, true, true, true, true, true, true, true, true, true, true, false, false, false, false, false, false, false, false] rfl rfl (any_of HT_.out (by kernel_rfl)) (fun _ _ _ h => h) (Or.inl ⟨by rfl, ?_⟩) ?_ ?_
                                    rotate_left
                                    · intro w'
                                      go_simp
                                      with_reducible rfl
                                    rotate_left
                                    · simp only [Act.put, List.setIfInBounds_toArray, List.set_cons_zero, List.set_cons_succ, i64_w, i32_w]
                                      rfl
                                    refine pure_ (i := 28) (N := some 142) (v := ?_) (a' := ?_) #[true, true, true, true, true, true, true, true, true, true, true, true, true, true, true, true, true, true, true, true, true, true, true, true, true, true, true, true, true, false, false, false, false, false, false, false] rfl rfl (any_of HT_.out (by kernel_rfl)) (fun _ _ _ h => h) (Or.inl ⟨by rfl, ?_⟩) ?_ ?_
                                    rotate_left
                                    · intro w'
                                      go_simp
                                      with_reducible rfl
                                    rotate_left
                                    · simp only [Act.put, List.setIfInBounds_toArray, List.set_cons_zero, List.set_cons_succ, i64_w, i32_w]
                                      rfl
                                    refine pure_ (i := 29) (N := some 143) (v := ?_) (a' := ?_) #[true, true, true, true, true, true, true, true, true, true, true, true, true, true, true, true, true, true, true, true, true, true, true, true, true, true, true, true, true, true, false, false, false, false, false, false] rfl rfl (any_of HT_.out (by kernel_rfl)) (fun _ _ _ h => h) (Or.inl ⟨by rfl, ?_⟩) ?_ ?_
                                    rotate_left
                                    · intro w'
                                      go_simp
                                      with_reducible rfl
                                    rotate_left
                                    · simp only [Act.put, List.setIfInBounds_toArray, List.set_cons_zero, List.set_cons_succ, i64_w, i32_w]
                                      rfl
                                    refine pure_ (i := 30) (N := some 144) (v := ?_) (a' := ?_) #[true, true, true, true, true, true, true, true, true, true, true, true, true, true, true, true, true, true, true, true, true, true, true, true, true, true, true, true, true, true, true, false, false, false, false, false] rfl rfl (any_of HT_.out (by kernel_rfl)) (fun _ _ _ h => h) (Or.inl ⟨by rfl, ?_⟩) ?_ ?_
                                    rotate_left
                                    · intro w'
                                      go_simp
                                      with_reducible rfl
                                    rotate_left
                                    · simp only [Act.put, List.setIfInBounds_toArray, List.set_cons_zero, List.set_cons_succ, i64_w, i32_w]
                                      rfl
                                    refine one_ (i := 31) (N := some 145) #[true, true, true, true, true, true, true, true, true, true, true, true, true, true, true, true, true, true, true, true, true, true, true, true, true, true, true, true, true, true, true, true, false, false, false, false] rfl rfl (one_of HT_.out (by kernel_rfl)) (by decide) (fun K hK => ?_)
                                    refine goes_ Try.func25 (by kernel_rfl) rfl #[.slice Ao105 t529.length co105, .slice Ao106 t534.length co106] (by rfl) rfl rfl (by (try simp only [List.map_toArray, List.map_cons, List.map_nil]); first | done | rfl | (simp only [List.length_drop, List.length_take]; rfl)) ?_
                                    with_reducible refine (laws_sameInts.calls k3 _ _ t529 _ _ t534 t542 _ ?side1 ?side2 ?side3 ?side4 A86.out).mono ?_
                                    (case side1 => exact U ((Kd.R_reads' HO531.out).2.2))
                                    (case side2 => exact (Kd.R_reads' HO531.out).2.1)
                                    (case side3 => exact U ((Kd.R_reads' HO536.out).2.2))
                                    (case side4 => exact (Kd.R_reads' HO536.out).2.1)
                                    rintro e w' ⟨rfl, ⟨nd, rfl⟩⟩
                                    refine ⟨_, rfl, ?_⟩
                                    refine hK.out _ _ ⟨(blk_cell BK511.out 0).trans rfl, (blk_cell BK511.out 1).trans rfl, (blk_cell BK504.out 0).trans rfl, (blk_cell BK504.out 1).trans rfl, (blk_cell BK505.out 0).trans rfl, (blk_cell BK505.out 1).trans rfl⟩ (fun hHeld => ?_)
                                    clear hK K
                                    refine norm_ (a' := ?_) ?_ ?_
                                    rotate_left
                                    · show Act.put _ (some 145) _ = _
                                      simp only [Act.put, List.setIfInBounds_toArray, List.set_cons_zero, List.set_cons_succ, i64_w, i32_w]
                                      rfl
                                    refine pure_ (i := 32) (N := some 146) (v := ?_) (a' := ?_) #[true, true, true, true, true, true, true, true, true, true, true, true, true, true, true, true, true, true, true, true, true, true, true, true, true, true, true, true, true, true, true, true, true, false, false, false] rfl rfl (any_of HT_.out (by kernel_rfl)) (fun _ _ _ h => h) (Or.inl ⟨by rfl, ?_⟩) ?_ ?_
                                    rotate_left
                                    · intro w'
                                      go_simp
                                      with_reducible rfl
                                    rotate_left
                                    · simp only [Act.put, List.setIfInBounds_toArray, List.set_cons_zero, List.set_cons_succ, i64_w, i32_w]
                                      rfl
                                    refine pure_ (i := 33) (N := some 147) (v := ?_) (a' := ?_) #[true, true, true, true, true, true, true, true, true, true, true, true, true, true, true, true, true, true, true, true, true, true, true, true, true, true, true, true, true, true, true, true, true, true, false, false] rfl rfl (any_of HT_.out (by kernel_rfl)) (fun _ _ _ h => h) (Or.inl ⟨by rfl, ?_⟩) ?_ ?_
                                    rotate_left
                                    · intro w'
                                      go_simp
                                      with_reducible rfl
                                    rotate_left
                                    · simp only [Act.put, List.setIfInBounds_toArray, List.set_cons_zero, List.set_cons_succ, i64_w, i32_w]
                                      rfl
                                    refine pure_ (i := 34) (N := some 148) (v := ?_) (a' := ?_) #[true, true, true, true, true, true, true, true, true, true, true, true, true, true, true, true, true, true, true, true, true, true, true, true, true, true, true, true, true, true, true, true, true, true, true, false] rfl rfl (any_of HT_.out (by kernel_rfl)) (fun _ _ _ h => h) (Or.inl ⟨by rfl, ?_⟩) ?_ ?_
                                    rotate_left
                                    · intro w'
                                      go_simp
                                      with_reducible rfl
                                    rotate_left
                                    · simp only [Act.put, List.setIfInBounds_toArray, List.set_cons_zero, List.set_cons_succ, i64_w, i32_w]
                                      rfl
                                    refine pure_ (i := 35) (N := some 4) (v := ?_) (a' := ?_) #[true, true, true, true, true, true, true, true, true, true, true, true, true, true, true, true, true, true, true, true, true, true, true, true, true, true, true, true, true, true, true, true, true, true, true, true] rfl rfl (any_of HT_.out (by kernel_rfl)) (fun _ _ _ h => h) (Or.inl ⟨by rfl, ?_⟩) ?_ ?_
                                    rotate_left
                                    · intro w'
                                      go_simp
                                      with_reducible rfl
                                    rotate_left
                                    · simp only [Act.put, List.setIfInBounds_toArray, List.set_cons_zero, List.set_cons_succ, i64_w, i32_w]
                                      rfl
                                    refine done_ (done_of HT_.out (by kernel_rfl)) ?_
                                    try go_wp2
                                    go_ret
                                    exact ⟨eR, BU⟩
                                  · rw [if_neg c85] at H
                                    exact absurd H (by simp)
                                · replace c84 := Bool.eq_false_iff.mpr c84
                                  subst c84; replace H := ifF H; obtain rfl := Option.some.inj H; obtain ⟨Ao107, co107, eo107⟩ := Kd.R_slice HO_12.out; subst eo107; have hnb108 := NB505_504.out; have hnc108 := NB504_505.out; have hnb109 := NB505_511.out; have hnc109 := NB511_505.out; have hnb110 := NB505_517.out; have hnc110 := NB517_505.out; obtain ⟨hcz111_0, hcz111_1, hfz111_0, hfz111_1⟩ := bcf BK505
                                  try go_wp2_with (first | ((with_reducible refine gate_callee (f := 23) rfl ?_); refine goesK (some 94) Try.func23 #[.slice Ao18 t493.length co18, .agg #[.slice Ao16 t500.length co16, .int .i64 t503], .slice Ao107 x12_3.length co107] ?_; (with_reducible refine (impl_MoveOn.calls k3 _ _ t493 _ _ t500 t503 _ _ x12_3 t524 t527 true _ ?side1 ?side2 ?side3 ?side4 ?side5 ?side6 A74.out).mono ?_); (case side1 => exact U ((Kd.Q_reads' HO_5.out).2.2)); (case side2 => exact (Kd.Q_reads' HO_5.out).2.1); (case side3 => exact U ((Kd.V_reads' HO_506000.out).2.2)); (case side4 => exact (Kd.V_reads' HO_506000.out).2.1); (case side5 => exact U ((Kd.R_reads' HO_12.out).2.2)); (case side6 => exact (Kd.R_reads' HO_12.out).2.1); rintro e w112 ⟨v525, rfl, ho0, hb⟩; refine ⟨_, rfl, ?_⟩; replace HO_505000 := Aside0.mk (Kd.V_elder' (U HO_505000.out) (Kd.R_base ho0) hb); replace HO_506000 := Aside0.mk (Kd.V_elder' (U HO_506000.out) (Kd.R_base ho0) hb); replace HO_512000 := Aside0.mk (Kd.S_elder' (U HO_512000.out) (Kd.R_base ho0) hb); replace HO_518000 := Aside0.mk (Kd.S_elder' (U HO_518000.out) (Kd.R_base ho0) hb); have HO526 := Aside0.mk (Kd.R_lower (Kd.R_new' (Kd.R_new' ho0 (Kd.Q_lt (U HO_5.out))) (Kd.R_lt (U HO_12.out))) (below_size BU)); replace HO_5 := Aside0.mk (Kd.Q_elder' (U HO_5.out) (Kd.R_base ho0) hb); replace HO_12 := Aside0.mk (Kd.R_elder' (U HO_12.out) (Kd.R_base ho0) hb); replace BK504 := bB BK504 hb; replace BK505 := bB BK505 hb; replace BK511 := bB BK511 hb; replace BK517 := bB BK517 hb; replace HB := BS hb; (try clear hb); (try clear ho0); have hnb113 := NB511_504.out; have hnc113 := NB504_511.out; have hnb114 := NB511_517.out; have hnc114 := NB517_511.out; obtain ⟨hcz115_0, hcz115_1, hfz115_0, hfz115_1⟩ := bcf BK511) | ((with_reducible refine gate_callee (f := 23) rfl ?_); refine goesK (some 102) Try.func23 #[.slice Ao18 t493.length co18, .agg #[.slice Ao21 t506.length co21, .int .i64 t509], .slice Ao107 x12_3.length co107] ?_; (with_reducible refine (impl_MoveOn.calls k3 _ _ t493 _ _ t506 t509 _ _ x12_3 t529 t532 true _ ?side1 ?side2 ?side3 ?side4 ?side5 ?side6 A75.out).mono ?_); (case side1 => exact U ((Kd.Q_reads' HO_5.out).2.2)); (case side2 => exact (Kd.Q_reads' HO_5.out).2.1); (case side3 => exact U ((Kd.S_reads' HO_512000.out).2.2)); (case side4 => exact (Kd.S_reads' HO_512000.out).2.1); (case side5 => exact U ((Kd.R_reads' HO_12.out).2.2)); (case side6 => exact (Kd.R_reads' HO_12.out).2.1); rintro e w116 ⟨v530, rfl, ho0, hb⟩; refine ⟨_, rfl, ?_⟩; replace HO_505000 := Aside0.mk (Kd.V_elder' (U HO_505000.out) (Kd.R_base ho0) hb); replace HO_506000 := Aside0.mk (Kd.V_elder' (U HO_506000.out) (Kd.R_base ho0) hb); replace HO_512000 := Aside0.mk (Kd.S_elder' (U HO_512000.out) (Kd.R_base ho0) hb); replace HO_518000 := Aside0.mk (Kd.S_elder' (U HO_518000.out) (Kd.R_base ho0) hb); have HO531 := Aside0.mk (Kd.R_lower (Kd.R_new' (Kd.R_new' (Kd.R_new' ho0 (Kd.Q_lt (U HO_5.out))) (Kd.R_lt (U HO_12.out))) (Kd.R_lt (U HO526.out))) (below_size BU)); replace HO_5 := Aside0.mk (Kd.Q_elder' (U HO_5.out) (Kd.R_base ho0) hb); replace HO_12 := Aside0.mk (Kd.R_elder' (U HO_12.out) (Kd.R_base ho0) hb); replace HO526 := Aside0.mk (Kd.R_elder' (U HO526.out) (Kd.R_base ho0) hb); replace BK504 := bB BK504 hb; replace BK505 := bB BK505 hb; replace BK511 := bB BK511 hb; replace BK517 := bB BK517 hb; replace HB := BS hb; (try clear hb); (try clear ho0); have hnb117 := NB504_517.out; have hnc117 := NB517_504.out; obtain ⟨hcz118_0, hcz118_1, hfz118_0, hfz118_1⟩ := bcf BK504; obtain ⟨Ao119, co119, eo119⟩ := Kd.R_slice HO526.out; subst eo119) | ((with_reducible refine gate_callee (f := 23) rfl ?_); refine goesK (some 110) Try.func23 #[.slice Ao18 t493.length co18, .agg #[.slice Ao13 t496.length co13, .int .i64 t499], .slice Ao119 t524.length co119] ?_; (with_reducible refine (impl_MoveOn.calls k3 _ _ t493 _ _ t496 t499 _ _ t524 t534 t537 false _ ?side1 ?side2 ?side3 ?side4 ?side5 ?side6 A76.out).mono ?_); (case side1 => exact U ((Kd.Q_reads' HO_5.out).2.2)); (case side2 => exact (Kd.Q_reads' HO_5.out).2.1); (case side3 => exact U ((Kd.V_reads' HO_505000.out).2.2)); (case side4 => exact (Kd.V_reads' HO_505000.out).2.1); (case side5 => exact U ((Kd.R_reads' HO526.out).2.2)); (case side6 => exact (Kd.R_reads' HO526.out).2.1); rintro e w120 ⟨v535, rfl, ho0, hb⟩; refine ⟨_, rfl, ?_⟩; replace HO_505000 := Aside0.mk (Kd.V_elder' (U HO_505000.out) (Kd.R_base ho0) hb); replace HO_506000 := Aside0.mk (Kd.V_elder' (U HO_506000.out) (Kd.R_base ho0) hb); replace HO_512000 := Aside0.mk (Kd.S_elder' (U HO_512000.out) (Kd.R_base ho0) hb); replace HO_518000 := Aside0.mk (Kd.S_elder' (U HO_518000.out) (Kd.R_base ho0) hb); have HO536 := Aside0.mk (Kd.R_lower (Kd.R_new' (Kd.R_new' (Kd.R_new' (Kd.R_new' ho0 (Kd.Q_lt (U HO_5.out))) (Kd.R_lt (U HO_12.out))) (Kd.R_lt (U HO526.out))) (Kd.R_lt (U HO531.out))) (below_size BU)); replace HO_5 := Aside0.mk (Kd.Q_elder' (U HO_5.out) (Kd.R_base ho0) hb); replace HO_12 := Aside0.mk (Kd.R_elder' (U HO_12.out) (Kd.R_base ho0) hb); replace HO526 := Aside0.mk (Kd.R_elder' (U HO526.out) (Kd.R_base ho0) hb); replace HO531 := Aside0.mk (Kd.R_elder' (U HO531.out) (Kd.R_base ho0) hb); replace BK504 := bB BK504 hb; replace BK505 := bB BK505 hb; replace BK511 := bB BK511 hb; replace BK517 := bB BK517 hb; replace HB := BS hb; (try clear hb); (try clear ho0)))
                                  replace HO_5 := Aside0.mk (Kd.Q_drew HO_5.out); replace HO_12 := Aside0.mk (Kd.R_drew HO_12.out); replace HO_505000 := Aside0.mk (Kd.V_drew HO_505000.out); replace HO_506000 := Aside0.mk (Kd.V_drew HO_506000.out); replace HO_512000 := Aside0.mk (Kd.S_drew HO_512000.out); replace HO_518000 := Aside0.mk (Kd.S_drew HO_518000.out); replace HO526 := Aside0.mk (Kd.R_drew HO526.out); replace HO531 := Aside0.mk (Kd.R_drew HO531.out); replace HO536 := Aside0.mk (Kd.R_drew HO536.out); replace BK504 := Aside0.mk (blk_drew BK504.out); replace BK505 := Aside0.mk (blk_drew BK505.out); replace BK511 := Aside0.mk (blk_drew BK511.out); replace BK517 := Aside0.mk (blk_drew BK517.out); replace HB := Aside0.mk (below_drew1 HB.out)
                                  refine start_ (n := 36) (S := fun w' => w'.cell? ⟨gb511, 0, none⟩ = some (.slice Ao21 t506.length co21) ∧ w'.cell? ⟨gb511, 1, none⟩ = some (.int .i64 t509) ∧ w'.cell? ⟨gb504, 0, none⟩ = some (.slice Ao13 t496.length co13) ∧ w'.cell? ⟨gb504, 1, none⟩ = some (.int .i64 t499) ∧ w'.cell? ⟨gb505, 0, none⟩ = some (.slice Ao16 t500.length co16) ∧ w'.cell? ⟨gb505, 1, none⟩ = some (.int .i64 t503)) (ds := []) #[false, false, false, false, false, false, false, false, false, false, false, false, false, false, false, false, false, false, false, false, false, false, false, false, false, false, false, false, false, false, false, false, false, false, false, false] (by kernel_rfl) rfl rfl ⟨(blk_cell BK511.out 0).trans rfl, (blk_cell BK511.out 1).trans rfl, (blk_cell BK504.out 0).trans rfl, (blk_cell BK504.out 1).trans rfl, (blk_cell BK505.out 0).trans rfl, (blk_cell BK505.out 1).trans rfl⟩ (fun hHeld => ?_); refine with_tabW laws_FnMoveMul.tab16 laws_FnMoveMul.bits16 (fun HT_ HW_ => ?_)
                                  generalize w120.drew = w121 at HO_5 HO_12 HO_505000 HO_506000 HO_512000 HO_518000 HO526 HO531 HO536 BK504 BK505 BK511 BK517 HB hHeld ⊢
                                  refine pure_ (i := 0) (N := some 114) (v := ?_) (a' := ?_) #[true, false, false, false, false, false, false, false, false, false, false, false, false, false, false, false, false, false, false, false, false, false, false, false, false, false, false, false, false, false, false, false, false, false, false, false] rfl rfl (any_of HT_.out (by kernel_rfl)) (fun _ _ _ h => h) (Or.inl ⟨by rfl, ?_⟩) ?_ ?_
                                  rotate_left
                                  · intro w'
                                    go_simp
                                    with_reducible rfl
                                  rotate_left
                                  · simp only [Act.put, List.setIfInBounds_toArray, List.set_cons_zero, List.set_cons_succ, i64_w, i32_w]
                                    rfl
                                  refine pure_ (i := 1) (N := some 115) (v := ?_) (a' := ?_) #[true, true, false, false, false, false, false, false, false, false, false, false, false, false, false, false, false, false, false, false, false, false, false, false, false, false, false, false, false, false, false, false, false, false, false, false] rfl rfl (any_of HT_.out (by kernel_rfl)) (fun _ _ _ h => h) (Or.inl ⟨by rfl, ?_⟩) ?_ ?_
                                  rotate_left
                                  · intro w'
                                    go_simp
                                    with_reducible rfl
                                  rotate_left
                                  · simp only [Act.put, List.setIfInBounds_toArray, List.set_cons_zero, List.set_cons_succ, i64_w, i32_w]
                                    rfl
                                  refine pure_ (i := 2) (N := some 116) (v := ?_) (a' := ?_) #[true, true, true, false, false, false, false, false, false, false, false, false, false, false, false, false, false, false, false, false, false, false, false, false, false, false, false, false, false, false, false, false, false, false, false, false] rfl rfl (any_of HT_.out (by kernel_rfl)) (fun _ _ _ h => h) (Or.inl ⟨by rfl, ?_⟩) ?_ ?_
                                  rotate_left
                                  · intro w'
                                    go_simp
                                    with_reducible rfl
                                  rotate_left
                                  · simp only [Act.put, List.setIfInBounds_toArray, List.set_cons_zero, List.set_cons_succ, i64_w, i32_w]
                                    rfl
                                  refine pure_ (i := 3) (N := some 117) (v := ?_) (a' := ?_) #[true, true, true, true, false, false, false, false, false, false, false, false, false, false, false, false, false, false, false, false, false, false, false, false, false, false, false, false, false, false, false, false, false, false, false, false] rfl rfl (any_of HT_.out (by kernel_rfl)) (fun _ _ _ h => h) (Or.inl ⟨by rfl, ?_⟩) ?_ ?_
                                  rotate_left
                                  · intro w'
                                    go_simp
                                    with_reducible rfl
                                  rotate_left
                                  · simp only [Act.put, List.setIfInBounds_toArray, List.set_cons_zero, List.set_cons_succ, i64_w, i32_w]
                                    rfl
                                  refine pure_ (i := 4) (N := some 118) (v := ?_) (a' := ?_) #[true, true, true, true, true, false, false, false, false, false, false, false, false, false, false, false, false, false, false, false, false, false, false, false, false, false, false, false, false, false, false, false, false, false, false, false] rfl rfl (any_of HT_.out (by kernel_rfl)) (fun _ _ _ h => h) (Or.inl ⟨by rfl, ?_⟩) ?_ ?_
                                  rotate_left
                                  · intro w'
                                    go_simp
                                    with_reducible rfl
                                  rotate_left
                                  · simp only [Act.put, List.setIfInBounds_toArray, List.set_cons_zero, List.set_cons_succ, i64_w, i32_w]
                                    rfl
                                  refine pure_ (i := 5) (N := some 119) (v := ?_) (a' := ?_) #[true, true, true, true, true, true, false, false, false, false, false, false, false, false, false, false, false, false, false, false, false, false, false, false, false, false, false, false, false, false, false, false, false, false, false, false] rfl rfl (any_of HT_.out (by kernel_rfl)) (fun _ _ _ h => h) (Or.inl ⟨by rfl, ?_⟩) ?_ ?_
                                  rotate_left
                                  · intro w'
                                    go_simp
                                    with_reducible rfl
                                  rotate_left
                                  · simp only [Act.put, List.setIfInBounds_toArray, List.set_cons_zero, List.set_cons_succ, i64_w, i32_w]
                                    rfl
                                  refine pure_ (i := 8) (N := some 122) (v := ?_) (a' := ?_) #[true, true, true, true, true, true, false, false, true, false, false, false, false, false, false, false, false, false, false, false, false, false, false, false, false, false, false, false, false, false, false, false, false, false, false, false] rfl rfl (any_of HT_.out (by kernel_rfl)) (fun _ _ _ h => h) (Or.inl ⟨by rfl, ?_⟩) ?_ ?_
                                  rotate_left
                                  · intro w'
                                    go_simp
                                    with_reducible rfl
                                  rotate_left
                                  · simp only [Act.put, List.setIfInBounds_toArray, List.set_cons_zero, List.set_cons_succ, i64_w, i32_w]
                                    rfl
                                  refine pure_ (i := 11) (N := some 125) (v := ?_) (a' := ?_) #[true, true, true, true, true, true, false, false, true, false, false, true, false, false, false, false, false, false, false, false, false, false, false, false, false, false, false, false, false, false, false, false, false, false, false, false] rfl rfl (any_of HT_.out (by kernel_rfl)) (fun _ _ _ h => h) (Or.inl ⟨by rfl, ?_⟩) ?_ ?_
                                  rotate_left
                                  · intro w'
                                    go_simp
                                    with_reducible rfl
                                  rotate_left
                                  · simp only [Act.put, List.setIfInBounds_toArray, List.set_cons_zero, List.set_cons_succ, i64_w, i32_w]
                                    rfl
                                  refine take_ (i := 6) (N := some 120) (v := ?_) (a' := ?_) #[true, true, true, true, true, true, true, false, true, false, false, true, false, false, false, false, false, false, false, false, false, false, false, false, false, false, false, false, false, false, false, false, false, false, false, false] rfl rfl (take_ofW HT_.out HW_.out (by kernel_rfl)) (fun _ _ _ h => h) (Or.inl ⟨by rfl, ?_⟩) hHeld ?_ ?_
                                  rotate_left
                                  · rintro w' ⟨s0, s1, s2, s3, s4, s5⟩
                                    go_simp
                                    with_reducible rfl
                                  rotate_left
                                  · simp only [Act.put, List.setIfInBounds_toArray, List.set_cons_zero, List.set_cons_succ, i64_w, i32_w]
                                    rfl
                                  refine take_ (i := 9) (N := some 123) (v := ?_) (a' := ?_) #[true, true, true, true, true, true, true, false, true, true, false, true, false, false, false, false, false, false, false, false, false, false, false, false, false, false, false, false, false, false, false, false, false, false, false, false] rfl rfl (take_ofW HT_.out HW_.out (by kernel_rfl)) (fun _ _ _ h => h) (Or.inl ⟨by rfl, ?_⟩) hHeld ?_ ?_
                                  rotate_left
                                  · rintro w' ⟨s0, s1, s2, s3, s4, s5⟩
                                    go_simp
                                    with_reducible rfl
                                  rotate_left
                                  · simp only [Act.put, List.setIfInBounds_toArray, List.set_cons_zero, List.set_cons_succ, i64_w, i32_w]
                                    rfl
                                  refine take_ (i := 12) (N := some 126) (v := ?_) (a' := ?_) #[true, true, true, true, true, true, true, false, true, true, false, true, true, false, false, false, false, false, false, false, false, false, false, false, false, false, false, false, false, false, false, false, false, false, false, false] rfl rfl (take_ofW HT_.out HW_.out (by kernel_rfl)) (fun _ _ _ h => h) (Or.inl ⟨by rfl, ?_⟩) hHeld ?_ ?_
                                  rotate_left
                                  · rintro w' ⟨s0, s1, s2, s3, s4, s5⟩
                                    go_simp
                                    with_reducible rfl
                                  rotate_left
                                  · simp only [Act.put, List.setIfInBounds_toArray, List.set_cons_zero, List.set_cons_succ, i64_w, i32_w]
                                    rfl
                                  refine one_ (i := 7) (N := some 121) #[true, true, true, true, true, true, true, true, true, true, false, true, true, false, false, false, false, false, false, false, false, false, false, false, false, false, false, false, false, false, false, false, false, false, false, false] rfl rfl (one_of HT_.out (by kernel_rfl)) (by decide) (fun K hK => ?_)
                                  refine goes_ Try.func20 (by kernel_rfl) rfl #[.slice Ao18 t493.length co18, .agg #[.slice Ao21 t506.length co21, .int .i64 t509]] (by rfl) rfl rfl (by (try simp only [List.map_toArray, List.map_cons, List.map_nil]); first | done | rfl | (simp only [List.length_drop, List.length_take]; rfl)) ?_
                                  with_reducible refine (impl_MoveSign.calls k3 _ _ t493 _ _ t506 t509 t539 _ ?side1 ?side2 ?side3 ?side4 A79.out).mono ?_
                                  (case side1 => exact U ((Kd.Q_reads' HO_5.out).2.2))
                                  (case side2 => exact (Kd.Q_reads' HO_5.out).2.1)
                                  (case side3 => exact U ((Kd.S_reads' HO_512000.out).2.2))
                                  (case side4 => exact (Kd.S_reads' HO_512000.out).2.1)
                                  rintro e w122 ⟨rfl, hb⟩
                                  refine ⟨_, rfl, ?_⟩
                                  replace HO_5 := Aside0.mk (Kd.Q_below (U HO_5.out) hb); replace HO_12 := Aside0.mk (Kd.R_below (U HO_12.out) hb); replace HO_505000 := Aside0.mk (Kd.V_below (U HO_505000.out) hb); replace HO_506000 := Aside0.mk (Kd.V_below (U HO_506000.out) hb); replace HO_512000 := Aside0.mk (Kd.S_below (U HO_512000.out) hb); replace HO_518000 := Aside0.mk (Kd.S_below (U HO_518000.out) hb); replace HO526 := Aside0.mk (Kd.R_below (U HO526.out) hb); replace HO531 := Aside0.mk (Kd.R_below (U HO531.out) hb); replace HO536 := Aside0.mk (Kd.R_below (U HO536.out) hb); replace BK504 := bB BK504 hb; replace BK505 := bB BK505 hb; replace BK511 := bB BK511 hb; replace BK517 := bB BK517 hb; replace HB := BS hb; (try clear hb); (try clear hb2); (try clear hk); (try clear hi)
                                  refine hK.out _ _ ⟨(blk_cell BK511.out 0).trans rfl, (blk_cell BK511.out 1).trans rfl, (blk_cell BK504.out 0).trans rfl, (blk_cell BK504.out 1).trans rfl, (blk_cell BK505.out 0).trans rfl, (blk_cell BK505.out 1).trans rfl⟩ (fun hHeld => ?_)
                                  clear hK K
                                  refine norm_ (a' := ?_) ?_ ?_
                                  rotate_left
                                  · show Act.put _ (some 121) _ = _
                                    simp only [Act.put, List.setIfInBounds_toArray, List.set_cons_zero, List.set_cons_succ, i64_w, i32_w]
                                    rfl
                                  refine one_ (i := 10) (N := some 124) #[true, true, true, true, true, true, true, true, true, true, true, true, true, false, false, false, false, false, false, false, false, false, false, false, false, false, false, false, false, false, false, false, false, false, false, false] rfl rfl (one_of HT_.out (by kernel_rfl)) (by decide) (fun K hK => ?_)
                                  refine goes_ Try.func20 (by kernel_rfl) rfl #[.slice Ao18 t493.length co18, .agg #[.slice Ao13 t496.length co13, .int .i64 t499]] (by rfl) rfl rfl (by (try simp only [List.map_toArray, List.map_cons, List.map_nil]); first | done | rfl | (simp only [List.length_drop, List.length_take]; rfl)) ?_
                                  with_reducible refine (impl_MoveSign.calls k3 _ _ t493 _ _ t496 t499 t540 _ ?side1 ?side2 ?side3 ?side4 A80.out).mono ?_
                                  (case side1 => exact U ((Kd.Q_reads' HO_5.out).2.2))
                                  (case side2 => exact (Kd.Q_reads' HO_5.out).2.1)
                                  (case side3 => exact U ((Kd.V_reads' HO_505000.out).2.2))
                                  (case side4 => exact (Kd.V_reads' HO_505000.out).2.1)
                                  rintro e w123 ⟨rfl, hb⟩
                                  refine ⟨_, rfl, ?_⟩
                                  replace HO_5 := Aside0.mk (Kd.Q_below (U HO_5.out) hb); replace HO_12 := Aside0.mk (Kd.R_below (U HO_12.out) hb); replace HO_505000 := Aside0.mk (Kd.V_below (U HO_505000.out) hb); replace HO_506000 := Aside0.mk (Kd.V_below (U HO_506000.out) hb); replace HO_512000 := Aside0.mk (Kd.S_below (U HO_512000.out) hb); replace HO_518000 := Aside0.mk (Kd.S_below (U HO_518000.out) hb); replace HO526 := Aside0.mk (Kd.R_below (U HO526.out) hb); replace HO531 := Aside0.mk (Kd.R_below (U HO531.out) hb); replace HO536 := Aside0.mk (Kd.R_below (U HO536.out) hb); replace BK504 := bB BK504 hb; replace BK505 := bB BK505 hb; replace BK511 := bB BK511 hb; replace BK517 := bB BK517 hb; replace HB := BS hb; (try clear hb); (try clear hb2); (try clear hk); (try clear hi)
                                  refine hK.out _ _ ⟨(blk_cell BK511.out 0).trans rfl, (blk_cell BK511.out 1).trans rfl, (blk_cell BK504.out 0).trans rfl, (blk_cell BK504.out 1).trans rfl, (blk_cell BK505.out 0).trans rfl, (blk_cell BK505.out 1).trans rfl⟩ (fun hHeld => ?_)
                                  clear hK K
                                  refine norm_ (a' := ?_) ?_ ?_
                                  rotate_left
                                  · show Act.put _ (some 124) _ = _
                                    simp only [Act.put, List.setIfInBounds_toArray, List.set_cons_zero, List.set_cons_succ, i64_w, i32_w]
                                    rfl
                                  refine one_ (i := 13) (N := some 127) #[true, true, true, true, true, true, true, true, true, true, true, true, true, true, false, false, false, false, false, false, false, false, false, false, false, false, false, false, false, false, false, false, false, false, false, false] rfl rfl (one_of HT_.out (by kernel_rfl)) (by decide) (fun K hK => ?_)
                                  refine goes_ Try.func20 (by kernel_rfl) rfl #[.slice Ao18 t493.length co18, .agg #[.slice Ao16 t500.length co16, .int .i64 t503]] (by rfl) rfl rfl (by (try simp only [List.map_toArray, List.map_cons, List.map_nil]); first | done | rfl | (simp only [List.length_drop, List.length_take]; rfl)) ?_
                                  with_reducible refine (impl_MoveSign.calls k3 _ _ t493 _ _ t500 t503 t541 _ ?side1 ?side2 ?side3 ?side4 A81.out).mono ?_
                                  (case side1 => exact U ((Kd.Q_reads' HO_5.out).2.2))
                                  (case side2 => exact (Kd.Q_reads' HO_5.out).2.1)
                                  (case side3 => exact U ((Kd.V_reads' HO_506000.out).2.2))
                                  (case side4 => exact (Kd.V_reads' HO_506000.out).2.1)
                                  rintro e w124 ⟨rfl, hb⟩
                                  refine ⟨_, rfl, ?_⟩
                                  replace HO_5 := Aside0.mk (Kd.Q_below (U HO_5.out) hb); replace HO_12 := Aside0.mk (Kd.R_below (U HO_12.out) hb); replace HO_505000 := Aside0.mk (Kd.V_below (U HO_505000.out) hb); replace HO_506000 := Aside0.mk (Kd.V_below (U HO_506000.out) hb); replace HO_512000 := Aside0.mk (Kd.S_below (U HO_512000.out) hb); replace HO_518000 := Aside0.mk (Kd.S_below (U HO_518000.out) hb); replace HO526 := Aside0.mk (Kd.R_below (U HO526.out) hb); replace HO531 := Aside0.mk (Kd.R_below (U HO531.out) hb); replace HO536 := Aside0.mk (Kd.R_below (U HO536.out) hb); replace BK504 := bB BK504 hb; replace BK505 := bB BK505 hb; replace BK511 := bB BK511 hb; replace BK517 := bB BK517 hb; replace HB := BS hb; (try clear hb); (try clear hb2); (try clear hk); (try clear hi)
                                  refine hK.out _ _ ⟨(blk_cell BK511.out 0).trans rfl, (blk_cell BK511.out 1).trans rfl, (blk_cell BK504.out 0).trans rfl, (blk_cell BK504.out 1).trans rfl, (blk_cell BK505.out 0).trans rfl, (blk_cell BK505.out 1).trans rfl⟩ (fun hHeld => ?_)
                                  clear hK K
                                  refine norm_ (a' := ?_) ?_ ?_
                                  rotate_left
                                  · show Act.put _ (some 127) _ = _
                                    simp only [Act.put, List.setIfInBounds_toArray, List.set_cons_zero, List.set_cons_succ, i64_w, i32_w]
                                    rfl
                                  refine pure_ (i := 14) (N := some 128) (v := ?_) (a' := ?_) #[true, true, true, true, true, true, true, true, true, true, true, true, true, true, true, false, false, false, false, false, false, false, false, false, false, false, false, false, false, false, false, false, false, false, false, false] rfl rfl (any_of HT_.out (by kernel_rfl)) (fun _ _ _ h => h) (Or.inl ⟨by rfl, ?_⟩) ?_ ?_
                                  rotate_left
                                  · intro w'
                                    go_simp
                                    with_reducible rfl
                                  rotate_left
                                  · simp only [Act.put, List.setIfInBounds_toArray, List.set_cons_zero, List.set_cons_succ, i64_w, i32_w]
                                    rfl
                                  refine pure_ (i := 15) (N := some 129) (v := ?_) (a' := ?_) #[true, true, true, true, true, true, true, true, true, true, true, true, true, true, true, true, false, false, false, false, false, false, false, false, false, false, false, false, false, false, false, false, false, false, false, false] rfl rfl (any_of HT_.out (by kernel_rfl)) (fun _ _ _ h => h) (Or.inl ⟨by rfl, ?_⟩) ?_ ?_
                                  rotate_left
                                  · intro w'
                                    go_simp
                                    with_reducible rfl
                                  rotate_left
                                  · simp only [Act.put, List.setIfInBounds_toArray, List.set_cons_zero, List.set_cons_succ, i64_w, i32_w]
                                    rfl
                                  refine pure_ (i := 16) (N := some 130) (v := ?_) (a' := ?_) #[true, true, true, true, true, true, true, true, true, true, true, true, true, true, true, true, true, false, false, false, false, false, false, false, false, false, false, false, false, false, false, false, false, false, false, false] rfl rfl (any_of HT_.out (by kernel_rfl)) (fun _ _ _ h => h) (Or.inl ⟨by rfl, ?_⟩) ?_ ?_
                                  rotate_left
                                  · intro w'
                                    go_simp
                                    with_reducible rfl
                                  rotate_left
                                  · simp only [Act.put, List.setIfInBounds_toArray, List.set_cons_zero, List.set_cons_succ, i64_w, i32_w]
                                    rfl
                                  refine pure_ (i := 17) (N := some 131) (v := ?_) (a' := ?_) #[true, true, true, true, true, true, true, true, true, true, true, true, true, true, true, true, true, true, false, false, false, false, false, false, false, false, false, false, false, false, false, false, false, false, false, false] rfl rfl (any_of HT_.out (by kernel_rfl)) (fun _ _ _ h => h) (Or.inl ⟨by rfl, ?_⟩) ?_ ?_
                                  rotate_left
                                  · intro w'
                                    go_simp
                                    with_reducible rfl
                                  rotate_left
                                  · simp only [Act.put, List.setIfInBounds_toArray, List.set_cons_zero, List.set_cons_succ, i64_w, i32_w]
                                    rfl
                                  refine pure_ (i := 18) (N := some 132) (v := ?_) (a' := ?_) #[true, true, true, true, true, true, true, true, true, true, true, true, true, true, true, true, true, true, true, false, false, false, false, false, false, false, false, false, false, false, false, false, false, false, false, false] rfl rfl (any_of HT_.out (by kernel_rfl)) (fun _ _ _ h => h) (Or.inl ⟨by rfl, ?_⟩) ?_ ?_
                                  rotate_left
                                  · intro w'
                                    go_simp
                                    with_reducible rfl
                                  rotate_left
                                  · simp only [Act.put, List.setIfInBounds_toArray, List.set_cons_zero, List.set_cons_succ, i64_w, i32_w]
                                    rfl
                                  refine pure_ (i := 19) (N := some 133) (v := ?_) (a' := ?_) #[true, true, true, true, true, true, true, true, true, true, true, true, true, true, true, true, true, true, true, true, false, false, false, false, false, false, false, false, false, false, false, false, false, false, false, false] rfl rfl (any_of HT_.out (by kernel_rfl)) (fun _ _ _ h => h) (Or.inl ⟨by rfl, ?_⟩) ?_ ?_
                                  rotate_left
                                  · intro w'
                                    go_simp
                                    with_reducible rfl
                                  rotate_left
                                  · simp only [Act.put, List.setIfInBounds_toArray, List.set_cons_zero, List.set_cons_succ, i64_w, i32_w]
                                    rfl
                                  refine pure_ (i := 20) (N := some 134) (v := ?_) (a' := ?_) #[true, true, true, true, true, true, true, true, true, true, true, true, true, true, true, true, true, true, true, true, true, false, false, false, false, false, false, false, false, false, false, false, false, false, false, false] rfl rfl (any_of HT_.out (by kernel_rfl)) (fun _ _ _ h => h) (Or.inl ⟨by rfl, ?_⟩) ?_ ?_
                                  rotate_left
                                  · intro w'
                                    go_simp
                                    with_reducible rfl
                                  rotate_left
                                  · simp only [Act.put, List.setIfInBounds_toArray, List.set_cons_zero, List.set_cons_succ, i64_w, i32_w]
                                    rfl
                                  refine pure_ (i := 21) (N := some 135) (v := ?_) (a' := ?_) #[true, true, true, true, true, true, true, true, true, true, true, true, true, true, true, true, true, true, true, true, true, true, false, false, false, false, false, false, false, false, false, false, false, false, false, false] rfl rfl (any_of HT_.out (by kernel_rfl)) (fun _ _ _ h => h) (Or.inl ⟨by rfl, ?_⟩) ?_ ?_
                                  rotate_left
                                  · intro w'
                                    go_simp
                                    with_reducible rfl
                                  rotate_left
                                  · simp only [Act.put, List.setIfInBounds_toArray, List.set_cons_zero, List.set_cons_succ, i64_w, i32_w]
                                    rfl
                                  refine pure_ (i := 22) (N := some 136) (v := ?_) (a' := ?_) #[true, true, true, true, true, true, true, true, true, true, true, true, true, true, true, true, true, true, true, true, true, true, true, false, false, false, false, false, false, false, false, false, false, false, false, false] rfl rfl (any_of HT_.out (by kernel_rfl)) (fun _ _ _ h => h) (Or.inl ⟨by rfl, ?_⟩) ?_ ?_
                                  rotate_left
                                  · intro w'
                                    go_simp
                                    with_reducible rfl
                                  rotate_left
                                  · simp only [Act.put, List.setIfInBounds_toArray, List.set_cons_zero, List.set_cons_succ, i64_w, i32_w]
                                    rfl
                                  refine pure_ (i := 23) (N := some 137) (v := ?_) (a' := ?_) #[true, true, true, true, true, true, true, true, true, true, true, true, true, true, true, true, true, true, true, true, true, true, true, true, false, false, false, false, false, false, false, false, false, false, false, false] rfl rfl (any_of HT_.out (by kernel_rfl)) (fun _ _ _ h => h) (Or.inl ⟨by rfl, ?_⟩) ?_ ?_
                                  rotate_left
                                  · intro w'
                                    go_simp
                                    with_reducible rfl
                                  rotate_left
                                  · simp only [Act.put, List.setIfInBounds_toArray, List.set_cons_zero, List.set_cons_succ, i64_w, i32_w]
                                    rfl
                                  refine pure_ (i := 24) (N := some 138) (v := ?_) (a' := ?_) #[true, true, true, true, true, true, true, true, true, true, true, true, true, true, true, true, true, true, true, true, true, true, true, true, true, false, false, false, false, false, false, false, false, false, false, false] rfl rfl (any_of HT_.out (by kernel_rfl)) (fun _ _ _ h => h) (Or.inl ⟨by rfl, ?_⟩) ?_ ?_
                                  rotate_left
                                  · intro w'
                                    go_simp
                                    with_reducible rfl
                                  rotate_left
                                  · simp only [Act.put, List.setIfInBounds_toArray, List.set_cons_zero, List.set_cons_succ, i64_w, i32_w]
                                    rfl
                                  refine pure_ (i := 25) (N := some 139) (v := undef) (a' := ?_) #[true, true, true, true, true, true, true, true, true, true, true, true, true, true, true, true, true, true, true, true, true, true, true, true, true, true, false, false, false, false, false, false, false, false, false, false] rfl rfl (any_of HT_.out (by kernel_rfl)) (fun _ _ _ h => h) (Or.inr ⟨by rfl, rfl⟩) ?_ ?_
                                  rotate_left
                                  · simp only [Act.put, List.setIfInBounds_toArray, List.set_cons_zero, List.set_cons_succ, i64_w, i32_w]
                                    rfl
                                  refine pure_ (i := 26) (N := some 140) (v := undef) (a' := ?_) #[true, true, true, true, true, true, true, true, true, true, true, true, true, true, true, true, true, true, true, true, true, true, true, true, true, true, true, false, false, false, false, false, false, false, false, false] rfl rfl (any_of HT_.out (by kernel_rfl)) (fun _ _ _ h => h) (Or.inr ⟨by rfl, rfl⟩) ?_ ?_
                                  rotate_left
                                  · simp only [Act.put, List.setIfInBounds_toArray, List.set_cons_zero, List.set_cons_succ, i64_w, i32_w]
                                    rfl
                                  refine pure_ (i := 27) (N := some 141) (v := undef) (a' := ?_) #[true, true, true, true, true, true, true, true, true, true, true, true, true, true, true, true, true, true, true, true, true, true, true, true, true, true, true, true, false, false, false, false, false, false, false, false] rfl rfl (any_of HT_.out (by kernel_rfl)) (fun _ _ _ h => h) (Or.inr ⟨by rfl, rfl⟩) ?_ ?_
                                  rotate_left
                                  · simp only [Act.put, List.setIfInBounds_toArray, List.set_cons_zero, List.set_cons_succ, i64_w, i32_w]
                                    rfl
                                  refine pure_ (i := 28) (N := some 142) (v := undef) (a' := ?_) #[true, true, true, true, true, true, true, true, true, true, true, true, true, true, true, true, true, true, true, true, true, true, true, true, true, true, true, true, true, false, false, false, false, false, false, false] rfl rfl (any_of HT_.out (by kernel_rfl)) (fun _ _ _ h => h) (Or.inr ⟨by rfl, rfl⟩) ?_ ?_
                                  rotate_left
                                  · simp only [Act.put, List.setIfInBounds_toArray, List.set_cons_zero, List.set_cons_succ, i64_w, i32_w]
                                    rfl
                                  refine pure_ (i := 29) (N := some 143) (v := undef) (a' := ?_) #[true, true, true, true, true, true, true, true, true, true, true, true, true, true, true, true, true, true, true, true, true, true, true, true, true, true, true, true, true, true, false, false, false, false, false, false] rfl rfl (any_of HT_.out (by kernel_rfl)) (fun _ _ _ h => h) (Or.inr ⟨by rfl, rfl⟩) ?_ ?_
                                  rotate_left
                                  · simp only [Act.put, List.setIfInBounds_toArray, List.set_cons_zero, List.set_cons_succ, i64_w, i32_w]
                                    rfl
                                  refine pure_ (i := 30) (N := some 144) (v := undef) (a' := ?_) #[true, true, true, true, true, true, true, true, true, true, true, true, true, true, true, true, true, true, true, true, true, true, true, true, true, true, true, true, true, true, true, false, false, false, false, false] rfl rfl (any_of HT_.out (by kernel_rfl)) (fun _ _ _ h => h) (Or.inr ⟨by rfl, rfl⟩) ?_ ?_
                                  rotate_left
                                  · simp only [Act.put, List.setIfInBounds_toArray, List.set_cons_zero, List.set_cons_succ, i64_w, i32_w]
                                    rfl
                                  refine pure_ (i := 31) (N := some 145) (v := undef) (a' := ?_) #[true, true, true, true, true, true, true, true, true, true, true, true, true, true, true, true, true, true, true, true, true, true, true, true, true, true, true, true, true, true, true, true, false, false, false, false] rfl rfl (any_of HT_.out (by kernel_rfl)) (fun _ _ _ h => h) (Or.inr ⟨by rfl, rfl⟩) ?_ ?_
                                  rotate_left
                                  · simp only [Act.put, List.setIfInBounds_toArray, List.set_cons_zero, List.set_cons_succ, i64_w, i32_w]
                                    rfl
                                  refine pure_ (i := 32) (N := some 146) (v := undef) (a' := ?_) #[true, true, true, true, true, true, true, true, true, true, true, true, true, true, true, true, true, true, true, true, true, true, true, true, true, true, true, true, true, true, true, true, true, false, false, false] rfl rfl (any_of HT_.out (by kernel_rfl)) (fun _ _ _ h => h) (Or.inr ⟨by rfl, rfl⟩) ?_ ?_
                                  rotate_left
                                  · simp only [Act.put, List.setIfInBounds_toArray, List.set_cons_zero, List.set_cons_succ, i64_w, i32_w]
                                    rfl
                                  refine pure_ (i := 33) (N := some 147) (v := ?_) (a' := ?_) #[true, true, true, true, true, true, true, true, true, true, true, true, true, true, true, true, true, true, true, true, true, true, true, true, true, true, true, true, true, true, true, true, true, true, false, false] rfl rfl (any_of HT_.out (by kernel_rfl)) (fun _ _ _ h => h) (Or.inl ⟨by rfl, ?_⟩) ?_ ?_
                                  rotate_left
                                  · intro w'
                                    go_simp
                                    with_reducible rfl
                                  rotate_left
                                  · simp only [Act.put, List.setIfInBounds_toArray, List.set_cons_zero, List.set_cons_succ, i64_w, i32_w]
                                    rfl
                                  refine pure_ (i := 34) (N := some 148) (v := ?_) (a' := ?_) #[true, true, true, true, true, true, true, true, true, true, true, true, true, true, true, true, true, true, true, true, true, true, true, true, true, true, true, true, true, true, true, true, true, true, true, false] rfl rfl (any_of HT_.out (by kernel_rfl)) (fun _ _ _ h => h) (Or.inl ⟨by rfl, ?_⟩) ?_ ?_
                                  rotate_left
                                  · intro w'
                                    go_simp
                                    with_reducible rfl
                                  rotate_left
                                  · simp only [Act.put, List.setIfInBounds_toArray, List.set_cons_zero, List.set_cons_succ, i64_w, i32_w]
                                    rfl
                                  refine pure_ (i := 35) (N := some 4) (v := ?_) (a' := ?_) #[true, true, true, true, true, true, true, true, true, true, true, true, true, true, true, true, true, true, true, true, true, true, true, true, true, true, true, true, true, true, true, true, true, true, true, true] rfl rfl (any_of HT_.out (by kernel_rfl)) (fun _ _ _ h => h) (Or.inl ⟨by rfl, ?_⟩) ?_ ?_
                                  rotate_left
                                  · intro w'
                                    go_simp
                                    with_reducible rfl
                                  rotate_left
                                  · simp only [Act.put, List.setIfInBounds_toArray, List.set_cons_zero, List.set_cons_succ, i64_w, i32_w]
                                    rfl
                                  refine done_ (done_of HT_.out (by kernel_rfl)) ?_
                                  try go_wp2
                                  go_ret
                                  exact ⟨eR, BU⟩
                              · rw [if_neg c83] at H
                                have c83b0 : (t527 == 1) = false := beq_eq_false_iff_ne.mpr c83; have c83b1 : (t527 != 1) = true := bne_iff_ne.mpr c83; obtain rfl := Option.some.inj H; obtain ⟨Ao125, co125, eo125⟩ := Kd.R_slice HO_12.out; subst eo125; have hnb126 := NB505_504.out; have hnc126 := NB504_505.out; have hnb127 := NB505_511.out; have hnc127 := NB511_505.out; have hnb128 := NB505_517.out; have hnc128 := NB517_505.out; obtain ⟨hcz129_0, hcz129_1, hfz129_0, hfz129_1⟩ := bcf BK505
                                try go_wp2_with (first | ((with_reducible refine gate_callee (f := 23) rfl ?_); refine goesK (some 94) Try.func23 #[.slice Ao18 t493.length co18, .agg #[.slice Ao16 t500.length co16, .int .i64 t503], .slice Ao125 x12_3.length co125] ?_; (with_reducible refine (impl_MoveOn.calls k3 _ _ t493 _ _ t500 t503 _ _ x12_3 t524 t527 true _ ?side1 ?side2 ?side3 ?side4 ?side5 ?side6 A74.out).mono ?_); (case side1 => exact U ((Kd.Q_reads' HO_5.out).2.2)); (case side2 => exact (Kd.Q_reads' HO_5.out).2.1); (case side3 => exact U ((Kd.V_reads' HO_506000.out).2.2)); (case side4 => exact (Kd.V_reads' HO_506000.out).2.1); (case side5 => exact U ((Kd.R_reads' HO_12.out).2.2)); (case side6 => exact (Kd.R_reads' HO_12.out).2.1); rintro e w130 ⟨v525, rfl, ho0, hb⟩; refine ⟨_, rfl, ?_⟩; replace HO_505000 := Aside0.mk (Kd.V_elder' (U HO_505000.out) (Kd.R_base ho0) hb); replace HO_506000 := Aside0.mk (Kd.V_elder' (U HO_506000.out) (Kd.R_base ho0) hb); replace HO_512000 := Aside0.mk (Kd.S_elder' (U HO_512000.out) (Kd.R_base ho0) hb); replace HO_518000 := Aside0.mk (Kd.S_elder' (U HO_518000.out) (Kd.R_base ho0) hb); have HO526 := Aside0.mk (Kd.R_lower (Kd.R_new' (Kd.R_new' ho0 (Kd.Q_lt (U HO_5.out))) (Kd.R_lt (U HO_12.out))) (below_size BU)); replace HO_5 := Aside0.mk (Kd.Q_elder' (U HO_5.out) (Kd.R_base ho0) hb); replace HO_12 := Aside0.mk (Kd.R_elder' (U HO_12.out) (Kd.R_base ho0) hb); replace BK504 := bB BK504 hb; replace BK505 := bB BK505 hb; replace BK511 := bB BK511 hb; replace BK517 := bB BK517 hb; replace HB := BS hb; (try clear hb); (try clear ho0); have hnb131 := NB511_504.out; have hnc131 := NB504_511.out; have hnb132 := NB511_517.out; have hnc132 := NB517_511.out; obtain ⟨hcz133_0, hcz133_1, hfz133_0, hfz133_1⟩ := bcf BK511) | ((with_reducible refine gate_callee (f := 23) rfl ?_); refine goesK (some 102) Try.func23 #[.slice Ao18 t493.length co18, .agg #[.slice Ao21 t506.length co21, .int .i64 t509], .slice Ao125 x12_3.length co125] ?_; (with_reducible refine (impl_MoveOn.calls k3 _ _ t493 _ _ t506 t509 _ _ x12_3 t529 t532 true _ ?side1 ?side2 ?side3 ?side4 ?side5 ?side6 A75.out).mono ?_); (case side1 => exact U ((Kd.Q_reads' HO_5.out).2.2)); (case side2 => exact (Kd.Q_reads' HO_5.out).2.1); (case side3 => exact U ((Kd.S_reads' HO_512000.out).2.2)); (case side4 => exact (Kd.S_reads' HO_512000.out).2.1); (case side5 => exact U ((Kd.R_reads' HO_12.out).2.2)); (case side6 => exact (Kd.R_reads' HO_12.out).2.1); rintro e w134 ⟨v530, rfl, ho0, hb⟩; refine ⟨_, rfl, ?_⟩; replace HO_505000 := Aside0.mk (Kd.V_elder' (U HO_505000.out) (Kd.R_base ho0) hb); replace HO_506000 := Aside0.mk (Kd.V_elder' (U HO_506000.out) (Kd.R_base ho0) hb); replace HO_512000 := Aside0.mk (Kd.S_elder' (U HO_512000.out) (Kd.R_base ho0) hb); replace HO_518000 := Aside0.mk (Kd.S_elder' (U HO_518000.out) (Kd.R_base ho0) hb); have HO531 := Aside0.mk (Kd.R_lower (Kd.R_new' (Kd.R_new' (Kd.R_new' ho0 (Kd.Q_lt (U HO_5.out))) (Kd.R_lt (U HO_12.out))) (Kd.R_lt (U HO526.out))) (below_size BU)); replace HO_5 := Aside0.mk (Kd.Q_elder' (U HO_5.out) (Kd.R_base ho0) hb); replace HO_12 := Aside0.mk (Kd.R_elder' (U HO_12.out) (Kd.R_base ho0) hb); replace HO526 := Aside0.mk (Kd.R_elder' (U HO526.out) (Kd.R_base ho0) hb); replace BK504 := bB BK504 hb; replace BK505 := bB BK505 hb; replace BK511 := bB BK511 hb; replace BK517 := bB BK517 hb; replace HB := BS hb; (try clear hb); (try clear ho0); have hnb135 := NB504_517.out; have hnc135 := NB517_504.out; obtain ⟨hcz136_0, hcz136_1, hfz136_0, hfz136_1⟩ := bcf BK504; obtain ⟨Ao137, co137, eo137⟩ := Kd.R_slice HO526.out; subst eo137) | ((with_reducible refine gate_callee (f := 23) rfl ?_); refine goesK (some 110) Try.func23 #[.slice Ao18 t493.length co18, .agg #[.slice Ao13 t496.length co13, .int .i64 t499], .slice Ao137 t524.length co137] ?_; (with_reducible refine (impl_MoveOn.calls k3 _ _ t493 _ _ t496 t499 _ _ t524 t534 t537 t538 _ ?side1 ?side2 ?side3 ?side4 ?side5 ?side6 A76.out).mono ?_); (case side1 => exact U ((Kd.Q_reads' HO_5.out).2.2)); (case side2 => exact (Kd.Q_reads' HO_5.out).2.1); (case side3 => exact U ((Kd.V_reads' HO_505000.out).2.2)); (case side4 => exact (Kd.V_reads' HO_505000.out).2.1); (case side5 => exact U ((Kd.R_reads' HO526.out).2.2)); (case side6 => exact (Kd.R_reads' HO526.out).2.1); rintro e w138 ⟨v535, rfl, ho0, hb⟩; refine ⟨_, rfl, ?_⟩; replace HO_505000 := Aside0.mk (Kd.V_elder' (U HO_505000.out) (Kd.R_base ho0) hb); replace HO_506000 := Aside0.mk (Kd.V_elder' (U HO_506000.out) (Kd.R_base ho0) hb); replace HO_512000 := Aside0.mk (Kd.S_elder' (U HO_512000.out) (Kd.R_base ho0) hb); replace HO_518000 := Aside0.mk (Kd.S_elder' (U HO_518000.out) (Kd.R_base ho0) hb); have HO536 := Aside0.mk (Kd.R_lower (Kd.R_new' (Kd.R_new' (Kd.R_new' (Kd.R_new' ho0 (Kd.Q_lt (U HO_5.out))) (Kd.R_lt (U HO_12.out))) (Kd.R_lt (U HO526.out))) (Kd.R_lt (U HO531.out))) (below_size BU)); replace HO_5 := Aside0.mk (Kd.Q_elder' (U HO_5.out) (Kd.R_base ho0) hb); replace HO_12 := Aside0.mk (Kd.R_elder' (U HO_12.out) (Kd.R_base ho0) hb); replace HO526 := Aside0.mk (Kd.R_elder' (U HO526.out) (Kd.R_base ho0) hb); replace HO531 := Aside0.mk (Kd.R_elder' (U HO531.out) (Kd.R_base ho0) hb); replace BK504 := bB BK504 hb; replace BK505 := bB BK505 hb; replace BK511 := bB BK511 hb; replace BK517 := bB BK517 hb; replace HB := BS hb; (try clear hb); (try clear ho0)))
                                replace HO_5 := Aside0.mk (Kd.Q_drew HO_5.out); replace HO_12 := Aside0.mk (Kd.R_drew HO_12.out); replace HO_505000 := Aside0.mk (Kd.V_drew HO_505000.out); replace HO_506000 := Aside0.mk (Kd.V_drew HO_506000.out); replace HO_512000 := Aside0.mk (Kd.S_drew HO_512000.out); replace HO_518000 := Aside0.mk (Kd.S_drew HO_518000.out); replace HO526 := Aside0.mk (Kd.R_drew HO526.out); replace HO531 := Aside0.mk (Kd.R_drew HO531.out); replace HO536 := Aside0.mk (Kd.R_drew HO536.out); replace BK504 := Aside0.mk (blk_drew BK504.out); replace BK505 := Aside0.mk (blk_drew BK505.out); replace BK511 := Aside0.mk (blk_drew BK511.out); replace BK517 := Aside0.mk (blk_drew BK517.out); replace HB := Aside0.mk (below_drew1 HB.out)
                                refine start_ (n := 36) (S := fun w' => w'.cell? ⟨gb511, 0, none⟩ = some (.slice Ao21 t506.length co21) ∧ w'.cell? ⟨gb511, 1, none⟩ = some (.int .i64 t509) ∧ w'.cell? ⟨gb504, 0, none⟩ = some (.slice Ao13 t496.length co13) ∧ w'.cell? ⟨gb504, 1, none⟩ = some (.int .i64 t499) ∧ w'.cell? ⟨gb505, 0, none⟩ = some (.slice Ao16 t500.length co16) ∧ w'.cell? ⟨gb505, 1, none⟩ = some (.int .i64 t503)) (ds := []) #[false, false, false, false, false, false, false, false, false, false, false, false, false, false, false, false, false, false, false, false, false, false, false, false, false, false, false, false, false, false, false, false, false, false, false, false] (by kernel_rfl) rfl rfl ⟨(blk_cell BK511.out 0).trans rfl, (blk_cell BK511.out 1).trans rfl, (blk_cell BK504.out 0).trans rfl, (blk_cell BK504.out 1).trans rfl, (blk_cell BK505.out 0).trans rfl, (blk_cell BK505.out 1).trans rfl⟩ (fun hHeld => ?_); refine with_tabW laws_FnMoveMul.tab16 laws_FnMoveMul.bits16 (fun HT_ HW_ => ?_)
                                generalize w138.drew = w139 at HO_5 HO_12 HO_505000 HO_506000 HO_512000 HO_518000 HO526 HO531 HO536 BK504 BK505 BK511 BK517 HB hHeld ⊢
                                refine pure_ (i := 0) (N := some 114) (v := ?_) (a' := ?_) #[true, false, false, false, false, false, false, false, false, false, false, false, false, false, false, false, false, false, false, false, false, false, false, false, false, false, false, false, false, false, false, false, false, false, false, false] rfl rfl (any_of HT_.out (by kernel_rfl)) (fun _ _ _ h => h) (Or.inl ⟨by rfl, ?_⟩) ?_ ?_
                                rotate_left
                                · intro w'
                                  go_simp
                                  with_reducible rfl
                                rotate_left
                                · simp only [Act.put, List.setIfInBounds_toArray, List.set_cons_zero, List.set_cons_succ, i64_w, i32_w]
                                  rfl
                                refine pure_ (i := 1) (N := some 115) (v := ?_) (a' := ?_) #[true, true, false, false, false, false, false, false, false, false, false, false, false, false, false, false, false, false, false, false, false, false, false, false, false, false, false, false, false, false, false, false, false, false, false, false] rfl rfl (any_of HT_.out (by kernel_rfl)) (fun _ _ _ h => h) (Or.inl ⟨by rfl, ?_⟩) ?_ ?_
                                rotate_left
                                · intro w'
                                  go_simp
                                  with_reducible rfl
                                rotate_left
                                · simp only [Act.put, List.setIfInBounds_toArray, List.set_cons_zero, List.set_cons_succ, i64_w, i32_w]
                                  rfl
                                refine pure_ (i := 2) (N := some 116) (v := ?_) (a' := ?_) #[true, true, true, false, false, false, false, false, false, false, false, false, false, false, false, false, false, false, false, false, false, false, false, false, false, false, false, false, false, false, false, false, false, false, false, false] rfl rfl (any_of HT_.out (by kernel_rfl)) (fun _ _ _ h => h) (Or.inl ⟨by rfl, ?_⟩) ?_ ?_
                                rotate_left
                                · intro w'
                                  go_simp
                                  with_reducible rfl
                                rotate_left
                                · simp only [Act.put, List.setIfInBounds_toArray, List.set_cons_zero, List.set_cons_succ, i64_w, i32_w]
                                  rfl
                                refine pure_ (i := 3) (N := some 117) (v := ?_) (a' := ?_) #[true, true, true, true, false, false, false, false, false, false, false, false, false, false, false, false, false, false, false, false, false, false, false, false, false, false, false, false, false, false, false, false, false, false, false, false] rfl rfl (any_of HT_.out (by kernel_rfl)) (fun _ _ _ h => h) (Or.inl ⟨by rfl, ?_⟩) ?_ ?_
                                rotate_left
                                · intro w'
                                  go_simp
                                  with_reducible rfl
                                rotate_left
                                · simp only [Act.put, List.setIfInBounds_toArray, List.set_cons_zero, List.set_cons_succ, i64_w, i32_w]
                                  rfl
                                refine pure_ (i := 4) (N := some 118) (v := ?_) (a' := ?_) #[true, true, true, true, true, false, false, false, false, false, false, false, false, false, false, false, false, false, false, false, false, false, false, false, false, false, false, false, false, false, false, false, false, false, false, false] rfl rfl (any_of HT_.out (by kernel_rfl)) (fun _ _ _ h => h) (Or.inl ⟨by rfl, ?_⟩) ?_ ?_
                                rotate_left
                                · intro w'
                                  go_simp
                                  with_reducible rfl
                                rotate_left
                                · simp only [Act.put, List.setIfInBounds_toArray, List.set_cons_zero, List.set_cons_succ, i64_w, i32_w]
                                  rfl
                                refine pure_ (i := 5) (N := some 119) (v := ?_) (a' := ?_) #[true, true, true, true, true, true, false, false, false, false, false, false, false, false, false, false, false, false, false, false, false, false, false, false, false, false, false, false, false, false, false, false, false, false, false, false] rfl rfl (any_of HT_.out (by kernel_rfl)) (fun _ _ _ h => h) (Or.inl ⟨by rfl, ?_⟩) ?_ ?_
                                rotate_left
                                · intro w'
                                  go_simp
                                  with_reducible rfl
                                rotate_left
                                · simp only [Act.put, List.setIfInBounds_toArray, List.set_cons_zero, List.set_cons_succ, i64_w, i32_w]
                                  rfl
                                refine pure_ (i := 8) (N := some 122) (v := ?_) (a' := ?_) #[true, true, true, true, true, true, false, false, true, false, false, false, false, false, false, false, false, false, false, false, false, false, false, false, false, false, false, false, false, false, false, false, false, false, false, false] rfl rfl (any_of HT_.out (by kernel_rfl)) (fun _ _ _ h => h) (Or.inl ⟨by rfl, ?_⟩) ?_ ?_
                                rotate_left
                                · intro w'
                                  go_simp
                                  with_reducible rfl
                                rotate_left
                                · simp only [Act.put, List.setIfInBounds_toArray, List.set_cons_zero, List.set_cons_succ, i64_w, i32_w]
                                  rfl
                                refine pure_ (i := 11) (N := some 125) (v := ?_) (a' := ?_) #[true, true, true, true, true, true, false, false, true, false, false, true, false, false, false, false, false, false, false, false, false, false, false, false, false, false, false, false, false, false, false, false, false, false, false, false] rfl rfl (any_of HT_.out (by kernel_rfl)) (fun _ _ _ h => h) (Or.inl ⟨by rfl, ?_⟩) ?_ ?_
                                rotate_left
                                · intro w'
                                  go_simp
                                  with_reducible rfl
                                rotate_left
                                · simp only [Act.put, List.setIfInBounds_toArray, List.set_cons_zero, List.set_cons_succ, i64_w, i32_w]
                                  rfl
                                refine take_ (i := 6) (N := some 120) (v := ?_) (a' := ?_) #[true, true, true, true, true, true, true, false, true, false, false, true, false, false, false, false, false, false, false, false, false, false, false, false, false, false, false, false, false, false, false, false, false, false, false, false] rfl rfl (take_ofW HT_.out HW_.out (by kernel_rfl)) (fun _ _ _ h => h) (Or.inl ⟨by rfl, ?_⟩) hHeld ?_ ?_
                                rotate_left
                                · rintro w' ⟨s0, s1, s2, s3, s4, s5⟩
                                  go_simp
                                  with_reducible rfl
                                rotate_left
                                · simp only [Act.put, List.setIfInBounds_toArray, List.set_cons_zero, List.set_cons_succ, i64_w, i32_w]
                                  rfl
                                refine take_ (i := 9) (N := some 123) (v := ?_) (a' := ?_) #[true, true, true, true, true, true, true, false, true, true, false, true, false, false, false, false, false, false, false, false, false, false, false, false, false, false, false, false, false, false, false, false, false, false, false, false] rfl rfl (take_ofW HT_.out HW_.out (by kernel_rfl)) (fun _ _ _ h => h) (Or.inl ⟨by rfl, ?_⟩) hHeld ?_ ?_
                                rotate_left
                                · rintro w' ⟨s0, s1, s2, s3, s4, s5⟩
                                  go_simp
                                  with_reducible rfl
                                rotate_left
                                · simp only [Act.put, List.setIfInBounds_toArray, List.set_cons_zero, List.set_cons_succ, i64_w, i32_w]
                                  rfl
                                refine take_ (i := 12) (N := some 126) (v := ?_) (a' := ?_) #[true, true, true, true, true, true, true, false, true, true, false, true, true, false, false, false, false, false, false, false, false, false, false, false, false, false, false, false, false, false, false, false, false, false, false, false] rfl rfl (take_ofW HT_.out HW_.out (by kernel_rfl)) (fun _ _ _ h => h) (Or.inl ⟨by rfl, ?_⟩) hHeld ?_ ?_
                                rotate_left
                                · rintro w' ⟨s0, s1, s2, s3, s4, s5⟩
                                  go_simp
                                  with_reducible rfl
                                rotate_left
                                · simp only [Act.put, List.setIfInBounds_toArray, List.set_cons_zero, List.set_cons_succ, i64_w, i32_w]
                                  rfl
                                refine one_ (i := 7) (N := some 121) #[true, true, true, true, true, true, true, true, true, true, false, true, true, false, false, false, false, false, false, false, false, false, false, false, false, false, false, false, false, false, false, false, false, false, false, false] rfl rfl (one_of HT_.out (by kernel_rfl)) (by decide) (fun K hK => ?_)
                                refine goes_ Try.func20 (by kernel_rfl) rfl #[.slice Ao18 t493.length co18, .agg #[.slice Ao21 t506.length co21, .int .i64 t509]] (by rfl) rfl rfl (by (try simp only [List.map_toArray, List.map_cons, List.map_nil]); first | done | rfl | (simp only [List.length_drop, List.length_take]; rfl)) ?_
                                with_reducible refine (impl_MoveSign.calls k3 _ _ t493 _ _ t506 t509 t539 _ ?side1 ?side2 ?side3 ?side4 A79.out).mono ?_
                                (case side1 => exact U ((Kd.Q_reads' HO_5.out).2.2))
                                (case side2 => exact (Kd.Q_reads' HO_5.out).2.1)
                                (case side3 => exact U ((Kd.S_reads' HO_512000.out).2.2))
                                (case side4 => exact (Kd.S_reads' HO_512000.out).2.1)
                                rintro e w140 ⟨rfl, hb⟩
                                refine ⟨_, rfl, ?_⟩
                                replace HO_5 := Aside0.mk (Kd.Q_below (U HO_5.out) hb); replace HO_12 := Aside0.mk (Kd.R_below (U HO_12.out) hb); replace HO_505000 := Aside0.mk (Kd.V_below (U HO_505000.out) hb); replace HO_506000 := Aside0.mk (Kd.V_below (U HO_506000.out) hb); replace HO_512000 := Aside0.mk (Kd.S_below (U HO_512000.out) hb); replace HO_518000 := Aside0.mk (Kd.S_below (U HO_518000.out) hb); replace HO526 := Aside0.mk (Kd.R_below (U HO526.out) hb); replace HO531 := Aside0.mk (Kd.R_below (U HO531.out) hb); replace HO536 := Aside0.mk (Kd.R_below (U HO536.out) hb); replace BK504 := bB BK504 hb; replace BK505 := bB BK505 hb; replace BK511 := bB BK511 hb; replace BK517 := bB BK517 hb; replace HB := BS hb; (try clear hb); (try clear hb2); (try clear hk); (try clear hi)
                                refine hK.out _ _ ⟨(blk_cell BK511.out 0).trans rfl, (blk_cell BK511.out 1).trans rfl, (blk_cell BK504.out 0).trans rfl, (blk_cell BK504.out 1).trans rfl, (blk_cell BK505.out 0).trans rfl, (blk_cell BK505.out 1).trans rfl⟩ (fun hHeld => ?_)
                                clear hK K
                                refine norm_ (a' := ?_) ?_ ?_
                                rotate_left
                                · show Act.put _ (some 121) _ = _
                                  simp only [Act.put, List.setIfInBounds_toArray, List.set_cons_zero, List.set_cons_succ, i64_w, i32_w]
                                  rfl
                                refine one_ (i := 10) (N := some 124) #[true, true, true, true, true, true, true, true, true, true, true, true, true, false, false, false, false, false, false, false, false, false, false, false, false, false, false, false, false, false, false, false, false, false, false, false] rfl rfl (one_of HT_.out (by kernel_rfl)) (by decide) (fun K hK => ?_)
                                refine goes_ Try.func20 (by kernel_rfl) rfl #[.slice Ao18 t493.length co18, .agg #[.slice Ao13 t496.length co13, .int .i64 t499]] (by rfl) rfl rfl (by (try simp only [List.map_toArray, List.map_cons, List.map_nil]); first | done | rfl | (simp only [List.length_drop, List.length_take]; rfl)) ?_
                                with_reducible refine (impl_MoveSign.calls k3 _ _ t493 _ _ t496 t499 t540 _ ?side1 ?side2 ?side3 ?side4 A80.out).mono ?_
                                (case side1 => exact U ((Kd.Q_reads' HO_5.out).2.2))
                                (case side2 => exact (Kd.Q_reads' HO_5.out).2.1)
                                (case side3 => exact U ((Kd.V_reads' HO_505000.out).2.2))
                                (case side4 => exact (Kd.V_reads' HO_505000.out).2.1)
                                rintro e w141 ⟨rfl, hb⟩
                                refine ⟨_, rfl, ?_⟩
                                replace HO_5 := Aside0.mk (Kd.Q_below (U HO_5.out) hb); replace HO_12 := Aside0.mk (Kd.R_below (U HO_12.out) hb); replace HO_505000 := Aside0.mk (Kd.V_below (U HO_505000.out) hb); replace HO_506000 := Aside0.mk (Kd.V_below (U HO_506000.out) hb); replace HO_512000 := Aside0.mk (Kd.S_below (U HO_512000.out) hb); replace HO_518000 := Aside0.mk (Kd.S_below (U HO_518000.out) hb); replace HO526 := Aside0.mk (Kd.R_below (U HO526.out) hb); replace HO531 := Aside0.mk (Kd.R_below (U HO531.out) hb); replace HO536 := Aside0.mk (Kd.R_below (U HO536.out) hb); replace BK504 := bB BK504 hb; replace BK505 := bB BK505 hb; replace BK511 := bB BK511 hb; replace BK517 := bB BK517 hb; replace HB := BS hb; (try clear hb); (try clear hb2); (try clear hk); (try clear hi)
                                refine hK.out _ _ ⟨(blk_cell BK511.out 0).trans rfl, (blk_cell BK511.out 1).trans rfl, (blk_cell BK504.out 0).trans rfl, (blk_cell BK504.out 1).trans rfl, (blk_cell BK505.out 0).trans rfl, (blk_cell BK505.out 1).trans rfl⟩ (fun hHeld => ?_)
                                clear hK K
                                refine norm_ (a' := ?_) ?_ ?_
                                rotate_left
                                · show Act.put _ (some 124) _ = _
                                  simp only [Act.put, List.setIfInBounds_toArray, List.set_cons_zero, List.set_cons_succ, i64_w, i32_w]
                                  rfl
                                refine one_ (i := 13) (N := some 127) #[true, true, true, true, true, true, true, true, true, true, true, true, true, true, false, false, false, false, false, false, false, false, false, false, false, false, false, false, false, false, false, false, false, false, false, false] rfl rfl (one_of HT_.out (by kernel_rfl)) (by decide) (fun K hK => ?_)
                                refine goes_ Try.func20 (by kernel_rfl) rfl #[.slice Ao18 t493.length co18, .agg #[.slice Ao16 t500.length co16, .int .i64 t503]] (by rfl) rfl rfl (by (try simp only [List.map_toArray, List.map_cons, List.map_nil]); first | done | rfl | (simp only [List.length_drop, List.length_take]; rfl)) ?_
                                with_reducible refine (impl_MoveSign.calls k3 _ _ t493 _ _ t500 t503 t541 _ ?side1 ?side2 ?side3 ?side4 A81.out).mono ?_
                                (case side1 => exact U ((Kd.Q_reads' HO_5.out).2.2))
                                (case side2 => exact (Kd.Q_reads' HO_5.out).2.1)
                                (case side3 => exact U ((Kd.V_reads' HO_506000.out).2.2))
                                (case side4 => exact (Kd.V_reads' HO_506000.out).2.1)
                                rintro e w142 ⟨rfl, hb⟩
                                refine ⟨_, rfl, ?_⟩
                                replace HO_5 := Aside0.mk (Kd.Q_below (U HO_5.out) hb); replace HO_12 := Aside0.mk (Kd.R_below (U HO_12.out) hb); replace HO_505000 := Aside0.mk (Kd.V_below (U HO_505000.out) hb); replace HO_506000 := Aside0.mk (Kd.V_below (U HO_506000.out) hb); replace HO_512000 := Aside0.mk (Kd.S_below (U HO_512000.out) hb); replace HO_518000 := Aside0.mk (Kd.S_below (U HO_518000.out) hb); replace HO526 := Aside0.mk (Kd.R_below (U HO526.out) hb); replace HO531 := Aside0.mk (Kd.R_below (U HO531.out) hb); replace HO536 := Aside0.mk (Kd.R_below (U HO536.out) hb); replace BK504 := bB BK504 hb; replace BK505 := bB BK505 hb; replace BK511 := bB BK511 hb; replace BK517 := bB BK517 hb; replace HB := BS hb; (try clear hb); (try clear hb2); (try clear hk); (try clear hi)
                                refine hK.out _ _ ⟨(blk_cell BK511.out 0).trans rfl, (blk_cell BK511.out 1).trans rfl, (blk_cell BK504.out 0).trans rfl, (blk_cell BK504.out 1).trans rfl, (blk_cell BK505.out 0).trans rfl, (blk_cell BK505.out 1).trans rfl⟩ (fun hHeld => ?_)
                                clear hK K
                                refine norm_ (a' := ?_) ?_ ?_
                                rotate_left
                                · show Act.put _ (some 127) _ = _
                                  simp only [Act.put, List.setIfInBounds_toArray, List.set_cons_zero, List.set_cons_succ, i64_w, i32_w]
                                  rfl
                                refine pure_ (i := 14) (N := some 128) (v := ?_) (a' := ?_) #[true, true, true, true, true, true, true, true, true, true, true, true, true, true, true, false, false, false, false, false, false, false, false, false, false, false, false, false, false, false, false, false, false, false, false, false] rfl rfl (any_of HT_.out (by kernel_rfl)) (fun _ _ _ h => h) (Or.inl ⟨by rfl, ?_⟩) ?_ ?_
                                rotate_left
                                · intro w'
                                  go_simp
                                  with_reducible rfl
                                rotate_left
                                · simp only [Act.put, List.setIfInBounds_toArray, List.set_cons_zero, List.set_cons_succ, i64_w, i32_w]
                                  rfl
                                refine pure_ (i := 15) (N := some 129) (v := ?_) (a' := ?_) #[true, true, true, true, true, true, true, true, true, true, true, true, true, true, true, true, false, false, false, false, false, false, false, false, false, false, false, false, false, false, false, false, false, false, false, false] rfl rfl (any_of HT_.out (by kernel_rfl)) (fun _ _ _ h => h) (Or.inl ⟨by rfl, ?_⟩) ?_ ?_
                                rotate_left
                                · intro w'
                                  go_simp
                                  with_reducible rfl
                                rotate_left
                                · simp only [Act.put, List.setIfInBounds_toArray, List.set_cons_zero, List.set_cons_succ, i64_w, i32_w]
                                  rfl
                                refine pure_ (i := 16) (N := some 130) (v := ?_) (a' := ?_) #[true, true, true, true, true, true, true, true, true, true, true, true, true, true, true, true, true, false, false, false, false, false, false, false, false, false, false, false, false, false, false, false, false, false, false, false] rfl rfl (any_of HT_.out (by kernel_rfl)) (fun _ _ _ h => h) (Or.inl ⟨by rfl, ?_⟩) ?_ ?_
                                rotate_left
                                · intro w'
                                  go_simp
                                  with_reducible rfl
                                rotate_left
                                · simp only [Act.put, List.setIfInBounds_toArray, List.set_cons_zero, List.set_cons_succ, i64_w, i32_w]
                                  rfl
                                refine pure_ (i := 17) (N := some 131) (v := ?_) (a' := ?_) #[true, true, true, true, true, true, true, true, true, true, true, true, true, true, true, true, true, true, false, false, false, false, false, false, false, false, false, false, false, false, false, false, false, false, false, false] rfl rfl (any_of HT_.out (by kernel_rfl)) (fun _ _ _ h => h) (Or.inl ⟨by rfl, ?_⟩) ?_ ?_
                                rotate_left
                                · intro w'
                                  go_simp
                                  with_reducible rfl
                                rotate_left
                                · simp only [Act.put, List.setIfInBounds_toArray, List.set_cons_zero, List.set_cons_succ, i64_w, i32_w]
                                  rfl
                                refine pure_ (i := 18) (N := some 132) (v := ?_) (a' := ?_) #[true, true, true, true, true, true, true, true, true, true, true, true, true, true, true, true, true, true, true, false, false, false, false, false, false, false, false, false, false, false, false, false, false, false, false, false] rfl rfl (any_of HT_.out (by kernel_rfl)) (fun _ _ _ h => h) (Or.inl ⟨by rfl, ?_⟩) ?_ ?_
                                rotate_left
                                · intro w'
                                  go_simp
                                  with_reducible rfl
                                rotate_left
                                · simp only [Act.put, List.setIfInBounds_toArray, List.set_cons_zero, List.set_cons_succ, i64_w, i32_w]
                                  rfl
                                refine pure_ (i := 19) (N := some 133) (v := ?_) (a' := ?_) #[true, true, true, true, true, true, true, true, true, true, true, true, true, true, true, true, true, true, true, true, false, false, false, false, false, false, false, false, false, false, false, false, false, false, false, false] rfl rfl (any_of HT_.out (by kernel_rfl)) (fun _ _ _ h => h) (Or.inl ⟨by rfl, ?_⟩) ?_ ?_
                                rotate_left
                                · intro w'
                                  go_simp
                                  with_reducible rfl
                                rotate_left
                                · simp only [Act.put, List.setIfInBounds_toArray, List.set_cons_zero, List.set_cons_succ, i64_w, i32_w]
                                  rfl
                                refine pure_ (i := 20) (N := some 134) (v := ?_) (a' := ?_) #[true, true, true, true, true, true, true, true, true, true, true, true, true, true, true, true, true, true, true, true, true, false, false, false, false, false, false, false, false, false, false, false, false, false, false, false] rfl rfl (any_of HT_.out (by kernel_rfl)) (fun _ _ _ h => h) (Or.inl ⟨by rfl, ?_⟩) ?_ ?_
                                rotate_left
                                · intro w'
                                  go_simp
                                  with_reducible rfl
                                rotate_left
                                · simp only [Act.put, List.setIfInBounds_toArray, List.set_cons_zero, List.set_cons_succ, i64_w, i32_w]
                                  rfl
                                refine pure_ (i := 21) (N := some 135) (v := undef) (a' := ?_) #[true, true, true, true, true, true, true, true, true, true, true, true, true, true, true, true, true, true, true, true, true, true, false, false, false, false, false, false, false, false, false, false, false, false, false, false] rfl rfl (any_of HT_.out (by kernel_rfl)) (fun _ _ _ h => h) (Or.inr ⟨by rfl, rfl⟩) ?_ ?_
                                rotate_left
                                · simp only [Act.put, List.setIfInBounds_toArray, List.set_cons_zero, List.set_cons_succ, i64_w, i32_w]
                                  rfl
                                refine pure_ (i := 22) (N := some 136) (v := undef) (a' := ?_) #[true, true, true, true, true, true, true, true, true, true, true, true, true, true, true, true, true, true, true, true, true, true, true, false, false, false, false, false, false, false, false, false, false, false, false, false] rfl rfl (any_of HT_.out (by kernel_rfl)) (fun _ _ _ h => h) (Or.inr ⟨by rfl, rfl⟩) ?_ ?_
                                rotate_left
                                · simp only [Act.put, List.setIfInBounds_toArray, List.set_cons_zero, List.set_cons_succ, i64_w, i32_w]
                                  rfl
                                refine pure_ (i := 23) (N := some 137) (v := ?_) (a' := ?_) #[true, true, true, true, true, true, true, true, true, true, true, true, true, true, true, true, true, true, true, true, true, true, true, true, false, false, false, false, false, false, false, false, false, false, false, false] rfl rfl (any_of HT_.out (by kernel_rfl)) (fun _ _ _ h => h) (Or.inl ⟨by rfl, ?_⟩) ?_ ?_
                                rotate_left
                                · intro w'
                                  go_simp
                                  with_reducible rfl
                                rotate_left
                                · simp only [Act.put, List.setIfInBounds_toArray, List.set_cons_zero, List.set_cons_succ, i64_w, i32_w]
                                  rfl
                                refine pure_ (i := 24) (N := some 138) (v := ?_) (a' := ?_) #[true, true, true, true, true, true, true, true, true, true, true, true, true, true, true, true, true, true, true, true, true, true, true, true, true, false, false, false, false, false, false, false, false, false, false, false] rfl rfl (any_of HT_.out (by kernel_rfl)) (fun _ _ _ h => h) (Or.inl ⟨by rfl, ?_⟩) ?_ ?_
                                rotate_left
                                · intro w'
                                  go_simp
                                  with_reducible rfl
                                rotate_left
                                · simp only [Act.put, List.setIfInBounds_toArray, List.set_cons_zero, List.set_cons_succ, i64_w, i32_w]
                                  rfl
                                refine pure_ (i := 25) (N := some 139) (v := undef) (a' := ?_) #[true, true, true, true, true, true, true, true, true, true, true, true, true, true, true, true, true, true, true, true, true, true, true, true, true, true, false, false, false, false, false, false, false, false, false, false] rfl rfl (any_of HT_.out (by kernel_rfl)) (fun _ _ _ h => h) (Or.inr ⟨by rfl, rfl⟩) ?_ ?_
                                rotate_left
                                · simp only [Act.put, List.setIfInBounds_toArray, List.set_cons_zero, List.set_cons_succ, i64_w, i32_w]
                                  rfl
                                refine pure_ (i := 26) (N := some 140) (v := undef) (a' := ?_) #[true, true, true, true, true, true, true, true, true, true, true, true, true, true, true, true, true, true, true, true, true, true, true, true, true, true, true, false, false, false, false, false, false, false, false, false] rfl rfl (any_of HT_.out (by kernel_rfl)) (fun _ _ _ h => h) (Or.inr ⟨by rfl, rfl⟩) ?_ ?_
                                rotate_left
                                · simp only [Act.put, List.setIfInBounds_toArray, List.set_cons_zero, List.set_cons_succ, i64_w, i32_w]
                                  rfl
                                refine pure_ (i := 27) (N := some 141) (v := undef) (a' := ?_) #[true, true, true, true, true, true, true, true, true, true, true, true, true, true, true, true, true, true, true, true, true, true, true, true, true, true, true, true, false, false, false, false, false, false, false, false] rfl rfl (any_of HT_.out (by kernel_rfl)) (fun _ _ _ h => h) (Or.inr ⟨by rfl, rfl⟩) ?_ ?_
                                rotate_left
                                · simp only [Act.put, List.setIfInBounds_toArray, List.set_cons_zero, List.set_cons_succ, i64_w, i32_w]
                                  rfl
                                refine pure_ (i := 28) (N := some 142) (v := undef) (a' := ?_) #[true, true, true, true, true, true, true, true, true, true, true, true, true, true, true, true, true, true, true, true, true, true, true, true, true, true, true, true, true, false, false, false, false, false, false, false] rfl rfl (any_of HT_.out (by kernel_rfl)) (fun _ _ _ h => h) (Or.inr ⟨by rfl, rfl⟩) ?_ ?_
                                rotate_left
                                · simp only [Act.put, List.setIfInBounds_toArray, List.set_cons_zero, List.set_cons_succ, i64_w, i32_w]
                                  rfl
                                refine pure_ (i := 29) (N := some 143) (v := undef) (a' := ?_) #[true, true, true, true, true, true, true, true, true, true, true, true, true, true, true, true, true, true, true, true, true, true, true, true, true, true, true, true, true, true, false, false, false, false, false, false] rfl rfl (any_of HT_.out (by kernel_rfl)) (fun _ _ _ h => h) (Or.inr ⟨by rfl, rfl⟩) ?_ ?_
                                rotate_left
                                · simp only [Act.put, List.setIfInBounds_toArray, List.set_cons_zero, List.set_cons_succ, i64_w, i32_w]
                                  rfl
                                refine pure_ (i := 30) (N := some 144) (v := undef) (a' := ?_) #[true, true, true, true, true, true, true, true, true, true, true, true, true, true, true, true, true, true, true, true, true, true, true, true, true, true, true, true, true, true, true, false, false, false, false, false] rfl rfl (any_of HT_.out (by kernel_rfl)) (fun _ _ _ h => h) (Or.inr ⟨by rfl, rfl⟩) ?_ ?_
                                rotate_left
                                · simp only [Act.put, List.setIfInBounds_toArray, List.set_cons_zero, List.set_cons_succ, i64_w, i32_w]
                                  rfl
                                refine pure_ (i := 31) (N := some 145) (v := undef) (a' := ?_) #[true, true, true, true, true, true, true, true, true, true, true, true, true, true, true, true, true, true, true, true, true, true, true, true, true, true, true, true, true, true, true, true, false, false, false, false] rfl rfl (any_of HT_.out (by kernel_rfl)) (fun _ _ _ h => h) (Or.inr ⟨by rfl, rfl⟩) ?_ ?_
                                rotate_left
                                · simp only [Act.put, List.setIfInBounds_toArray, List.set_cons_zero, List.set_cons_succ, i64_w, i32_w]
                                  rfl
                                refine pure_ (i := 32) (N := some 146) (v := undef) (a' := ?_) #[true, true, true, true, true, true, true, true, true, true, true, true, true, true, true, true, true, true, true, true, true, true, true, true, true, true, true, true, true, true, true, true, true, false, false, false] rfl rfl (any_of HT_.out (by kernel_rfl)) (fun _ _ _ h => h) (Or.inr ⟨by rfl, rfl⟩) ?_ ?_
                                rotate_left
                                · simp only [Act.put, List.setIfInBounds_toArray, List.set_cons_zero, List.set_cons_succ, i64_w, i32_w]
                                  rfl
                                refine pure_ (i := 33) (N := some 147) (v := ?_) (a' := ?_) #[true, true, true, true, true, true, true, true, true, true, true, true, true, true, true, true, true, true, true, true, true, true, true, true, true, true, true, true, true, true, true, true, true, true, false, false] rfl rfl (any_of HT_.out (by kernel_rfl)) (fun _ _ _ h => h) (Or.inl ⟨by rfl, ?_⟩) ?_ ?_
                                rotate_left
                                · intro w'
                                  go_simp
                                  with_reducible rfl
                                rotate_left
                                · simp only [Act.put, List.setIfInBounds_toArray, List.set_cons_zero, List.set_cons_succ, i64_w, i32_w]
                                  rfl
                                refine pure_ (i := 34) (N := some 148) (v := ?_) (a' := ?_) #[true, true, true, true, true, true, true, true, true, true, true, true, true, true, true, true, true, true, true, true, true, true, true, true, true, true, true, true, true, true, true, true, true, true, true, false] rfl rfl (any_of HT_.out (by kernel_rfl)) (fun _ _ _ h => h) (Or.inl ⟨by rfl, ?_⟩) ?_ ?_
                                rotate_left
                                · intro w'
                                  go_simp
                                  with_reducible rfl
                                rotate_left
                                · simp only [Act.put, List.setIfInBounds_toArray, List.set_cons_zero, List.set_cons_succ, i64_w, i32_w]
                                  rfl
                                refine pure_ (i := 35) (N := some 4) (v := ?_) (a' := ?_) #[true, true, true, true, true, true, true, true, true, true, true, true, true, true, true, true, true, true, true, true, true, true, true, true, true, true, true, true, true, true, true, true, true, true, true, true] rfl rfl (any_of HT_.out (by kernel_rfl)) (fun _ _ _ h => h) (Or.inl ⟨by rfl, ?_⟩) ?_ ?_
                                rotate_left
                                · intro w'
                                  go_simp
                                  with_reducible rfl
                                rotate_left
                                · simp only [Act.put, List.setIfInBounds_toArray, List.set_cons_zero, List.set_cons_succ, i64_w, i32_w]
                                  rfl
                                refine done_ (done_of HT_.out (by kernel_rfl)) ?_
                                try go_wp2
                                go_ret
                                exact ⟨eR, BU⟩
                            · rw [if_neg c82] at H
                              exact absurd H (by simp)
                          · replace c78 := Bool.eq_false_iff.mpr c78
                            subst c78; replace H := ifF H
                            exact absurd H (by simp)
                        · replace c77 := Bool.eq_false_iff.mpr c77
                          subst c77; replace H := ifF H
                          exact absurd H (by simp)
                · rw [if_neg c65] at H
                  exact absurd H (by simp)
              · rw [if_neg c64] at H
                exact absurd H (by simp)

/-- THE ONE PURE STATEMENT of laws_FnMoveMul: yours. -/
def laws_FnMoveMul.Pure : Prop := ∀ (l0 : List Int) (l1 : List Int), l0.length ≤ maxLen → l0.length * 1 ≤ 140737488351232 → (∀ x ∈ l0, (Lit.int .u8 x).wf = true) → l1.length ≤ maxLen → l1.length * 1 ≤ 140737488351232 → (∀ x ∈ l1, (Lit.int .u8 x).wf = true) → ∃ k, laws_FnMoveMul.f k l0 l1 = some true
theorem laws_FnMoveMul.walk (P : laws_FnMoveMul.Pure) (a0 : Option Addr) (len0 cap0 : Nat) (z0 : List Int) (a1 : Option Addr) (len1 cap1 : Nat) (z1 : List Int) (w : World) (w0 : (a0 = none ∧ len0 = 0 ∧ cap0 = 0 ∧ z0 = []) ∨ ∃ x, a0 = some x ∧ len0 ≤ cap0 ∧ cap0 ≤ maxLen ∧ z0.length = cap0 ∧ (∀ i, i < z0.length → w.cell? (x.add i) = some (.int .u8 (z0.getD i 0))) ∧ ∀ n ∈ z0, (Lit.int .u8 n).wf = true) (y0 : len0 * 1 ≤ 140737488351232) (w1 : (a1 = none ∧ len1 = 0 ∧ cap1 = 0 ∧ z1 = []) ∨ ∃ x, a1 = some x ∧ len1 ≤ cap1 ∧ cap1 ≤ maxLen ∧ z1.length = cap1 ∧ (∀ i, i < z1.length → w.cell? (x.add i) = some (.int .u8 (z1.getD i 0))) ∧ ∀ n ∈ z1, (Lit.int .u8 n).wf = true) (y1 : len1 * 1 ≤ 140737488351232) :
    Calls Try.prog 7 #[.slice a0 len0 cap0, .slice a1 len1 cap1] w fun e w' => e = .returned (.bool true) ∧ Below w.heap.size w w' := by
  obtain ⟨l0, rfl, hr0, hm0, hw0, hc0⟩ := ReadsInt.ofRowC w0
  obtain ⟨l1, rfl, hr1, hm1, hw1, hc1⟩ := ReadsInt.ofRowC w1
  obtain ⟨k, h⟩ := P l0 l1 hm0 y0 hw0 hm1 y1 hw1
  refine (laws_FnMoveMul.calls k _ _ l0 _ _ l1 true w (Kd.C_of_reads (d := (0 : Int)) (h1 := fun _ => rfl) hr0) hc0 (Kd.C_of_reads (d := (0 : Int)) (h1 := fun _ => rfl) hr1) hc1 h).mono ?_
  rintro e w' ⟨rfl, hd⟩
  exact ⟨rfl, hd⟩

end Go.Proofs.Ytnbeeogmaamgdaa.PFnMoveMul
