import Derived.Test.YtpjgcjkodmkemaaPFnFindZerox0
import Derived.Test.YtpjgcjkodmkemaaPFnFindZerox10
import Derived.Test.YtpjgcjkodmkemaaPFnFindZerox11
import Derived.Test.YtpjgcjkodmkemaaPFnFindZerox12
namespace Go.Proofs.Ytpjgcjkodmkemaa.PFnFindZero
open Go.RowKit Go.Proofs.YtpjgcjkodmkemaaW.PrintWords Go.Proofs.YtpjgcjkodmkemaaW.PrintLast Go.Proofs.YtpjgcjkodmkemaaW.PrintMore
attribute [local go_sem] max2_int min2_int max_two min_two max_three min_three max_four min_four   -- for this text's walks alone
set_option linter.unusedVariables false
set_option linter.unusedSimpArgs false

/-! ### spec_DrawZeroFind: function 17 -/
def spec_DrawZeroFind.f (k : Nat) (l0 : List Int) : Option (List Int) := (spec_l6Open.f l0).bind fun bt359 => ((spec_l6Rd_pick.f k bt359.1 bt359.2 4).bind fun bt362 => ((spec_l92Form.f k bt359.1 bt362.2 (wrap64 (1 + bt362.1))).bind fun bt364 => (some bt364.1)))
theorem spec_DrawZeroFind.mono : ∀ a0 k, LeO (spec_DrawZeroFind.f k a0) (spec_DrawZeroFind.f (k + 1) a0) := by
  intro a0 k
  unfold spec_DrawZeroFind.f
  with_reducible repeat' first | exact spec_l6Rd_pick.mono _ _ _ _ | exact spec_l92Form.mono _ _ _ _ | exact LeO.refl _ | exact LeO.none _ | refine LeO.ite ?_ ?_ | refine LeO.bind ?_ (fun _ => ?_)
set_option maxHeartbeats 8000000 in
set_option maxRecDepth 100000 in
theorem spec_DrawZeroFind.calls (k : Nat) (A0 : Option Addr) (c0 : Nat) (l0 : List Int) (r : List Int) (w : World) (hr0 : Kd.C (Kd.int .u8) w A0 l0.length l0) (hc0 : l0.length ≤ c0) (h : spec_DrawZeroFind.f k l0 = some r) :
    Calls Try.prog 17 #[.slice A0 l0.length c0] w fun e w' => ∃ v0_ : Value, e = .returned (v0_) ∧ Kd.R (Kd.int .i64) 3 w' w.heap.size (fun _ => True) v0_ r ∧ Below w.heap.size w w' := by
  have HR0 := Aside0.mk hr0; have HC0 := Aside0.mk hc0; clear hr0 hc0; have HB := Aside0.mk (Below.refl w.heap.size w); unfold spec_DrawZeroFind.f at h; have H := h; clear h; obtain ⟨⟨t359, t360⟩, A2, H⟩ := bnd H
  replace H : ((spec_l6Rd_pick.f k t359 t360 4).bind fun bt362 => ((spec_l92Form.f k t359 bt362.2 (wrap64 (1 + bt362.1))).bind fun bt364 => (some bt364.1))) = some r := H
  obtain ⟨⟨t362, t363⟩, A3, H⟩ := bnd H; replace H : ((spec_l92Form.f k t359 t363 (wrap64 (1 + t362))).bind fun bt364 => (some bt364.1)) = some r := H; obtain ⟨⟨t364, t367⟩, A4, H⟩ := bnd H; replace H : (some t364) = some r := H; obtain rfl := Option.some.inj H; go_enter Try.func17, Try.ntmps17
  go_wp2_with (first | ((with_reducible refine gate_callee (f := 23) rfl ?_); refine goesK (some 5) Try.func23 #[.slice A0 l0.length c0] ?_; (with_reducible refine (spec_l6Open.calls _ _ l0 t359 t360 w _ ?side1 ?side2 ?side3 A2.out).mono ?_); (case side1 => repeat (first | (with_reducible first | exact HB.out | apply below_alloc | apply pw_below_drewN | apply below_drew1) | exact HB.out | exact Below.refl _ _)); (case side2 => exact HR0.out); (case side3 => exact HC0.out); rintro e w5 ⟨g361, rfl, hi, hb, hb2⟩; refine ⟨_, rfl, ?_⟩; replace HB := Aside0.mk (hb); have HI361 := Aside0.mk (hi); (try clear hb); (try clear hb2); (try clear hi)) | ((with_reducible refine gate_callee (f := 36) rfl ?_); refine goesK (some 8) Try.func36 #[.pointer (some ⟨g361, 0, none⟩), .int .i64 4] ?_; (with_reducible refine (spec_l6Rd_pick.calls k g361 t359 t360 4 t362 t363 w _ ?side1 ?side2 A3.out).mono ?_); (case side1 => repeat (first | (with_reducible first | exact HI361.out | apply IsS60.alloc | apply IsS60.drewN | apply IsS60.drew | apply IsS60.set_1) | exact HI361.out)); (case side2 => repeat (first | (with_reducible first | exact HB.out | apply below_alloc | apply pw_below_drewN | apply below_drew1 | refine below_set ?_ (IsS60.ge HI361.out)) | exact HB.out)); rintro e w6 ⟨rfl, hi, hb, hk⟩; refine ⟨_, rfl, ?_⟩; replace HB := Aside0.mk (hb); replace HI361 := Aside0.mk (hi); (try clear hb); (try clear hk); (try clear hi)) | ((with_reducible refine gate_callee (f := 35) rfl ?_); refine goesK (some 10) Try.func35 #[.pointer (some ⟨g361, 0, none⟩), .int .i64 (wrap64 (1 + t362))] ?_; (with_reducible refine (spec_l92Form.calls k g361 t359 t363 (wrap64 (1 + t362)) t364 t367 w _ ?side1 ?side2 A4.out).mono ?_); (case side1 => repeat (first | (with_reducible first | exact HI361.out | apply IsS60.alloc | apply IsS60.drewN | apply IsS60.drew | apply IsS60.set_1) | exact HI361.out)); (case side2 => repeat (first | (with_reducible first | exact HB.out | apply below_alloc | apply pw_below_drewN | apply below_drew1 | refine below_set ?_ (IsS60.ge HI361.out)) | exact HB.out)); rintro e w7 ⟨v365, rfl, ho0, hi, hb, hk⟩; refine ⟨_, rfl, ?_⟩; have HO366 := Aside0.mk (Kd.R_lower ho0 (below_size (by repeat (first | (with_reducible first | exact HB.out | apply below_alloc | apply pw_below_drewN | apply below_drew1 | refine below_set ?_ (IsS60.ge HI361.out)) | exact HB.out)))); replace HB := Aside0.mk (hb); replace HI361 := Aside0.mk (hi); (try clear hb); (try clear hk); (try clear hi); (try clear ho0)))
  go_ret
  exact ⟨_, eR, U HO366.out, by repeat (first | (with_reducible first | exact HB.out | apply below_alloc | apply pw_below_drewN | apply below_drew1 | refine below_set ?_ (IsS60.ge HI361.out)) | exact HB.out)⟩

/-! ### spec_l1Core: function 49 -/
mutual
def spec_l1Core.l0 : Nat → Int → Int → Int → Option (Int × Int)
  | 0, _, _, _ => none
  | k + 1, x0, x4, x5 => (spec_l1Size.f x0).bind fun t368 => (if (wrap64 (x5 * x5)) ≤ t368 then (spec_l1Core.l1 k x0 x4 x5) else (some (x0, x4)))
def spec_l1Core.l1 : Nat → Int → Int → Int → Option (Int × Int)
  | 0, _, _, _ => none
  | k + 1, x0, x4, x5 => if (wrap64 (x5 * x5)) = 0 then (none) else (if (Int.tmod x0 (wrap64 (x5 * x5))) = 0 then (spec_l1Core.l1 k (wrap64 (Int.tdiv x0 (wrap64 (x5 * x5)))) (wrap64 (x4 * x5)) x5) else (spec_l1Core.l0 k x0 x4 (wrap64 (x5 + 1))))
end
def spec_l1Core.f (k : Nat) (a0 : Int) : Option (Int × Int) := spec_l1Core.l0 k a0 1 2
theorem spec_l1Core.mono_l : ∀ k, (∀ y0 y1 y2, LeO (spec_l1Core.l0 k y0 y1 y2) (spec_l1Core.l0 (k + 1) y0 y1 y2)) ∧ (∀ y0 y1 y2, LeO (spec_l1Core.l1 k y0 y1 y2) (spec_l1Core.l1 (k + 1) y0 y1 y2))
  | 0 => ⟨fun _ _ _ r h => by simp [spec_l1Core.l0] at h, fun _ _ _ r h => by simp [spec_l1Core.l1] at h⟩
  | k + 1 => by
    obtain ⟨ih0, ih1⟩ := spec_l1Core.mono_l k
    refine ⟨?_, ?_⟩ <;> intros <;> (first | unfold spec_l1Core.l0 | unfold spec_l1Core.l1) <;> (with_reducible repeat' first | exact ih0 _ _ _ | exact ih1 _ _ _ | exact LeO.refl _ | exact LeO.none _ | refine LeO.ite ?_ ?_ | refine LeO.bind ?_ (fun _ => ?_))
theorem spec_l1Core.mono : ∀ a0 k, LeO (spec_l1Core.f k a0) (spec_l1Core.f (k + 1) a0) := by
  intro a0 k
  obtain ⟨ih0, ih1⟩ := spec_l1Core.mono_l k
  unfold spec_l1Core.f
  with_reducible repeat' first | exact ih0 _ _ _ | exact ih1 _ _ _ | exact LeO.refl _ | exact LeO.none _ | refine LeO.ite ?_ ?_ | refine LeO.bind ?_ (fun _ => ?_)
set_option maxHeartbeats 8000000 in
set_option maxRecDepth 100000 in
theorem spec_l1Core.calls (k : Nat) (a0 : Int) (r1 : Int) (r2 : Int) (w : World) (h : spec_l1Core.f k a0 = some (r1, r2)) :
    Calls Try.prog 49 #[.int .i64 a0] w fun e w' => e = .returned (.tuple #[.int .i64 r1, .int .i64 r2]) ∧ Below w.heap.size w w' := by
  have HB := Aside0.mk (Below.refl w.heap.size w); unfold spec_l1Core.f at h; have H := h; clear h; have H' := Aside0.mk H; clear H; go_enter Try.func49, Try.ntmps49
  go_wp2
  go_loopg [0, 4, 5] k (fun kq v0 v4 v5 w' => ∃ (x0_1 : Int) (x4_1 : Int) (x5_1 : Int), v0 = .int .i64 x0_1 ∧ v4 = .int .i64 x4_1 ∧ v5 = .int .i64 x5_1 ∧ Aside0 (spec_l1Core.l0 kq x0_1 x4_1 x5_1 = some (r1, r2)) ∧ Aside0 (kq ≤ k) ∧ Aside0 (Below w.heap.size w w'))
  case atStart => exact ⟨(a0), (1), (2), sR, sR, sR, H', ⟨Nat.le_refl _⟩, ⟨BU⟩⟩
  case round =>
    clear H'; obtain ⟨x0_1, x4_1, x5_1, rfl, rfl, rfl, HA, HK1, HB⟩ := hrel; cases gk with
    | zero => exact absurd HA.out (by simp [spec_l1Core.l0])
    | succ k1 =>
      have H := HA.out; clear HA; simp only [spec_l1Core.l0] at H; obtain ⟨t368, A2, H⟩ := bnd H
      by_cases c3 : (wrap64 (x5_1 * x5_1)) ≤ t368
      · rw [if_pos c3] at H
        have c3b0 : decide ((wrap64 (x5_1 * x5_1)) ≤ t368) = true := decide_eq_true c3; clear c3; have H' := Aside0.mk H; clear H
        go_wp2_with (first | ((with_reducible refine gate_callee (f := 62) rfl ?_); refine goesK (some 10) Try.func62 #[.int .i64 x0_1] ?_; (with_reducible refine (spec_l1Size.calls x0_1 t368 _ A2.out).mono ?_); rintro e w4 ⟨rfl, hb⟩; refine ⟨_, rfl, ?_⟩; replace HB := BS hb; (try clear hb)))
        go_loopg [0, 4] k1 (fun kq v0 v4 w' => ∃ (x0_2 : Int) (x4_2 : Int), v0 = .int .i64 x0_2 ∧ v4 = .int .i64 x4_2 ∧ Aside0 (spec_l1Core.l1 kq x0_2 x4_2 x5_1 = some (r1, r2)) ∧ Aside0 (kq ≤ k1) ∧ Aside0 (Below w.heap.size w w'))
        case atStart => exact ⟨(x0_1), (x4_1), sR, sR, H', ⟨Nat.le_refl _⟩, ⟨BU⟩⟩
        case round =>
          clear H'; (try clear c3); (try clear c3b0); obtain ⟨x0_2, x4_2, rfl, rfl, HA, HK2, HB⟩ := hrel; cases gk with
          | zero => exact absurd HA.out (by simp [spec_l1Core.l1])
          | succ k2 =>
            have H := HA.out; clear HA; simp only [spec_l1Core.l1] at H; obtain ⟨c5, H⟩ := ifM H; have c5b0 : ((wrap64 (x5_1 * x5_1)) == 0) = false := beq_eq_false_iff_ne.mpr c5; have c5b1 : ((wrap64 (x5_1 * x5_1)) != 0) = true := bne_iff_ne.mpr c5
            by_cases c6 : (Int.tmod x0_2 (wrap64 (x5_1 * x5_1))) = 0
            · rw [if_pos c6] at H
              have c6b0 : ((Int.tmod x0_2 (wrap64 (x5_1 * x5_1))) == 0) = true := beq_iff_eq.mpr c6; have c6b1 : ((Int.tmod x0_2 (wrap64 (x5_1 * x5_1))) != 0) = false := bne_eq_false_iff_eq.mpr c6; clear c6; have H' := Aside0.mk H; clear H
              go_wp2
              go_roundg k2
              case measure => have := HK1.out; have := HK2.out; omega
              case rel => exact ⟨(wrap64 (Int.tdiv x0_2 (wrap64 (x5_1 * x5_1)))), (wrap64 (x4_2 * x5_1)), sR, sR, H', ⟨by have := HK1.out; have := HK2.out; omega⟩, ⟨BU⟩⟩
            rw [if_neg c6] at H; have c6b0 : ((Int.tmod x0_2 (wrap64 (x5_1 * x5_1))) == 0) = false := beq_eq_false_iff_ne.mpr c6; have c6b1 : ((Int.tmod x0_2 (wrap64 (x5_1 * x5_1))) != 0) = true := bne_iff_ne.mpr c6; have H' := Aside0.mk H; clear H
            go_wp2
            go_roundg k2
            case measure => have := HK1.out; have := HK2.out; omega
            case rel => exact ⟨(x0_2), (x4_2), (wrap64 (x5_1 + 1)), sR, sR, sR, H', ⟨by have := HK1.out; have := HK2.out; omega⟩, ⟨BU⟩⟩
      rw [if_neg c3] at H; have c3b0 : decide ((wrap64 (x5_1 * x5_1)) ≤ t368) = false := decide_eq_false c3; clear c3; simp only [Option.some.injEq, Prod.mk.injEq] at H; obtain ⟨rfl, rfl⟩ := H
      go_wp2_with (first | ((with_reducible refine gate_callee (f := 62) rfl ?_); refine goesK (some 10) Try.func62 #[.int .i64 x0_1] ?_; (with_reducible refine (spec_l1Size.calls x0_1 t368 _ A2.out).mono ?_); rintro e w7 ⟨rfl, hb⟩; refine ⟨_, rfl, ?_⟩; replace HB := BS hb; (try clear hb)))
      go_ret2
      exact ⟨eR, BU⟩

/-! ### spec_l1Gcd: function 68 -/
def spec_l1Gcd.l0 : Nat → Int → Int → Option (Int)
  | 0, _, _ => none
  | k + 1, x0, x1 => if x1 = 0 then (some x0) else (spec_l1Gcd.l0 k x1 (Int.tmod x0 x1))
def spec_l1Gcd.f (k : Nat) (a0 : Int) (a1 : Int) : Option (Int) := (spec_l1Size.f a0).bind fun t369 => ((spec_l1Size.f a1).bind fun t370 => (spec_l1Gcd.l0 k t369 t370))
theorem spec_l1Gcd.mono_l : ∀ k, (∀ y0 y1, LeO (spec_l1Gcd.l0 k y0 y1) (spec_l1Gcd.l0 (k + 1) y0 y1))
  | 0 => fun _ _ r h => by simp [spec_l1Gcd.l0] at h
  | k + 1 => by
    have ih0 := spec_l1Gcd.mono_l k
    · intro y0 y1
      unfold spec_l1Gcd.l0
      with_reducible repeat' first | exact ih0 _ _ | exact LeO.refl _ | exact LeO.none _ | refine LeO.ite ?_ ?_ | refine LeO.bind ?_ (fun _ => ?_)
theorem spec_l1Gcd.mono : ∀ a0 a1 k, LeO (spec_l1Gcd.f k a0 a1) (spec_l1Gcd.f (k + 1) a0 a1) := by
  intro a0 a1 k
  have ih0 := spec_l1Gcd.mono_l k
  unfold spec_l1Gcd.f
  with_reducible repeat' first | exact ih0 _ _ | exact LeO.refl _ | exact LeO.none _ | refine LeO.ite ?_ ?_ | refine LeO.bind ?_ (fun _ => ?_)
set_option maxHeartbeats 8000000 in
set_option maxRecDepth 100000 in
theorem spec_l1Gcd.calls (k : Nat) (a0 : Int) (a1 : Int) (r : Int) (w : World) (h : spec_l1Gcd.f k a0 a1 = some r) :
    Calls Try.prog 68 #[.int .i64 a0, .int .i64 a1] w fun e w' => e = .returned (.int .i64 r) ∧ Below w.heap.size w w' := by
  have HB := Aside0.mk (Below.refl w.heap.size w); unfold spec_l1Gcd.f at h; have H := h; clear h; obtain ⟨t369, A3, H⟩ := bnd H; obtain ⟨t370, A4, H⟩ := bnd H; have H' := Aside0.mk H; clear H; go_enter Try.func68, Try.ntmps68
  go_wp2_with (first | ((with_reducible refine gate_callee (f := 62) rfl ?_); refine goesK (some 7) Try.func62 #[.int .i64 a0] ?_; (with_reducible refine (spec_l1Size.calls a0 t369 _ A3.out).mono ?_); rintro e w5 ⟨rfl, hb⟩; refine ⟨_, rfl, ?_⟩; replace HB := BS hb; (try clear hb)) | ((with_reducible refine gate_callee (f := 62) rfl ?_); refine goesK (some 9) Try.func62 #[.int .i64 a1] ?_; (with_reducible refine (spec_l1Size.calls a1 t370 _ A4.out).mono ?_); rintro e w6 ⟨rfl, hb⟩; refine ⟨_, rfl, ?_⟩; replace HB := BS hb; (try clear hb)))
  go_loopg [0, 1] k (fun kq v0 v1 w' => ∃ (x0_1 : Int) (x1_1 : Int), v0 = .int .i64 x0_1 ∧ v1 = .int .i64 x1_1 ∧ Aside0 (spec_l1Gcd.l0 kq x0_1 x1_1 = some r) ∧ Aside0 (kq ≤ k) ∧ Aside0 (Below w.heap.size w w'))
  case atStart => exact ⟨(t369), (t370), sR, sR, H', ⟨Nat.le_refl _⟩, ⟨BU⟩⟩
  case round =>
    clear H'; obtain ⟨x0_1, x1_1, rfl, rfl, HA, HK1, HB⟩ := hrel; cases gk with
    | zero => exact absurd HA.out (by simp [spec_l1Gcd.l0])
    | succ k1 =>
      have H := HA.out; clear HA; simp only [spec_l1Gcd.l0] at H
      by_cases c7 : x1_1 = 0
      · rw [if_pos c7] at H
        have c7b0 : (x1_1 == 0) = true := beq_iff_eq.mpr c7; have c7b1 : (x1_1 != 0) = false := bne_eq_false_iff_eq.mpr c7; clear c7; obtain rfl := Option.some.inj H
        go_wp2
        go_ret
        exact ⟨eR, BU⟩
      rw [if_neg c7] at H; have c7b0 : (x1_1 == 0) = false := beq_eq_false_iff_ne.mpr c7; have c7b1 : (x1_1 != 0) = true := bne_iff_ne.mpr c7; have H' := Aside0.mk H; clear H
      go_wp2
      go_roundg k1
      case measure => have := HK1.out; omega
      case rel => exact ⟨(x1_1), (Int.tmod x0_1 x1_1), sR, sR, H', ⟨by have := HK1.out; omega⟩, ⟨BU⟩⟩

/-! ### spec_l5Plain: function 50 -/
mutual
def spec_l5Plain.l0 : Nat → List Int → Int → Int → Bool → Int → Option (List Int)
  | 0, _, _, _, _, _ => none
  | k + 1, x0, x3, x4, x5, x6 => if x6 < (x0.length : Int) then (if 0 ≤ x6 then ((spec_l1Gcd.f k x3 (rd x0 x6)).bind fun t372 => (if (rd x0 x6) = 0 then (spec_l5Plain.j1 k x0 t372 x4 x5 x6 false) else (spec_l5Plain.j1 k x0 t372 x4 x5 x6 x5))) else (none)) else (spec_l5Plain.l1 k x0 x3 x4 (([] : List Int)) 0)
def spec_l5Plain.j1 : Nat → List Int → Int → Int → Bool → Int → Bool → Option (List Int)
  | 0, _, _, _, _, _, _ => none
  | k + 1, x0, x3, x4, x5, x6, x28 => if x28 = true then (if 0 ≤ x6 then (if x6 < (x0.length : Int) then (if (rd x0 x6) < 0 then (spec_l5Plain.l0 k x0 x3 (-1) false (wrap64 (x6 + 1))) else (spec_l5Plain.l0 k x0 x3 x4 false (wrap64 (x6 + 1)))) else (none)) else (none)) else (spec_l5Plain.l0 k x0 x3 x4 x5 (wrap64 (x6 + 1)))
def spec_l5Plain.l1 : Nat → List Int → Int → Int → List Int → Int → Option (List Int)
  | 0, _, _, _, _, _ => none
  | k + 1, x0, x3, x4, x7, x8 => if x8 < (x0.length : Int) then (if 0 ≤ x8 then (if x3 = 0 then (none) else (if x7.length < 17592186044416 then (spec_l5Plain.l1 k x0 x3 x4 (x7 ++ [wrap64 (Int.tdiv (wrap64 (x4 * (rd x0 x8))) x3)]) (wrap64 (x8 + 1))) else (none))) else (none)) else (some x7)
end
def spec_l5Plain.f (k : Nat) (l0 : List Int) : Option (List Int) := spec_l5Plain.l0 k l0 0 1 true 0
theorem spec_l5Plain.mono_l : ∀ k, (∀ y0 y1 y2 y3 y4, LeO (spec_l5Plain.l0 k y0 y1 y2 y3 y4) (spec_l5Plain.l0 (k + 1) y0 y1 y2 y3 y4)) ∧ (∀ y0 y1 y2 y3 y4 y5, LeO (spec_l5Plain.j1 k y0 y1 y2 y3 y4 y5) (spec_l5Plain.j1 (k + 1) y0 y1 y2 y3 y4 y5)) ∧ (∀ y0 y1 y2 y3 y4, LeO (spec_l5Plain.l1 k y0 y1 y2 y3 y4) (spec_l5Plain.l1 (k + 1) y0 y1 y2 y3 y4))
  | 0 => ⟨fun _ _ _ _ _ r h => by simp [spec_l5Plain.l0] at h, fun _ _ _ _ _ _ r h => by simp [spec_l5Plain.j1] at h, fun _ _ _ _ _ r h => by simp [spec_l5Plain.l1] at h⟩
  | k + 1 => by
    obtain ⟨ih0, ih1, ih2⟩ := spec_l5Plain.mono_l k
    refine ⟨?_, ?_, ?_⟩ <;> intros <;> (first | unfold spec_l5Plain.l0 | unfold spec_l5Plain.j1 | unfold spec_l5Plain.l1) <;> (with_reducible repeat' first | exact ih0 _ _ _ _ _ | exact ih1 _ _ _ _ _ _ | exact ih2 _ _ _ _ _ | exact spec_l1Gcd.mono _ _ _ | exact LeO.refl _ | exact LeO.none _ | refine LeO.ite ?_ ?_ | refine LeO.bind ?_ (fun _ => ?_))
theorem spec_l5Plain.mono : ∀ a0 k, LeO (spec_l5Plain.f k a0) (spec_l5Plain.f (k + 1) a0) := by
  intro a0 k
  obtain ⟨ih0, ih1, ih2⟩ := spec_l5Plain.mono_l k
  unfold spec_l5Plain.f
  with_reducible repeat' first | exact ih0 _ _ _ _ _ | exact ih1 _ _ _ _ _ _ | exact ih2 _ _ _ _ _ | exact spec_l1Gcd.mono _ _ _ | exact LeO.refl _ | exact LeO.none _ | refine LeO.ite ?_ ?_ | refine LeO.bind ?_ (fun _ => ?_)
set_option maxHeartbeats 8000000 in
set_option maxRecDepth 100000 in
theorem spec_l5Plain.calls (k : Nat) (A0 : Option Addr) (c0 : Nat) (l0 : List Int) (r : List Int) (w : World) (hr0 : Kd.C (Kd.int .i64) w A0 l0.length l0) (hc0 : l0.length ≤ c0) (h : spec_l5Plain.f k l0 = some r) :
    Calls Try.prog 50 #[.slice A0 l0.length c0] w fun e w' => ∃ v0_ : Value, e = .returned (v0_) ∧ Kd.R (Kd.int .i64) 3 w' w.heap.size (fun _ => True) v0_ r ∧ Below w.heap.size w w' := by
  have HR0 := Aside0.mk hr0; have HC0 := Aside0.mk hc0; clear hr0 hc0; have HB := Aside0.mk (Below.refl w.heap.size w); unfold spec_l5Plain.f at h; have H := h; clear h; have H' := Aside0.mk H; clear H; go_enter Try.func50, Try.ntmps50
  go_wp2
  go_loopg [3, 4, 5, 6] k (fun kq v3 v4 v5 v6 w' => ∃ (x3_1 : Int) (x4_1 : Int) (x5_1 : Bool) (x6_1 : Int), v3 = .int .i64 x3_1 ∧ v4 = .int .i64 x4_1 ∧ v5 = .bool x5_1 ∧ v6 = .int .i64 x6_1 ∧ Aside0 (spec_l5Plain.l0 kq l0 x3_1 x4_1 x5_1 x6_1 = some r) ∧ Aside0 (kq ≤ k) ∧ Aside0 (Below w.heap.size w w'))
  case atStart => exact ⟨(0), (1), (true), (0), sR, sR, sR, sR, H', ⟨Nat.le_refl _⟩, ⟨BU⟩⟩
  case round =>
    clear H'; obtain ⟨x3_1, x4_1, x5_1, x6_1, rfl, rfl, rfl, rfl, HA, HK1, HB⟩ := hrel; cases gk with
    | zero => exact absurd HA.out (by simp [spec_l5Plain.l0])
    | succ k1 =>
      have H := HA.out; clear HA; simp only [spec_l5Plain.l0] at H
      by_cases c2 : x6_1 < (l0.length : Int)
      · rw [if_pos c2] at H
        have c2b0 : decide (x6_1 < (l0.length : Int)) = true := decide_eq_true c2; clear c2; obtain ⟨c3, H⟩ := ifN H; have c3b0 : decide (0 ≤ x6_1) = true := decide_eq_true c3; clear c3; obtain ⟨t372, A4, H⟩ := bnd H; have HC5 := Aside0.mk H; clear H; have p371 : 0 ≤ (x6_1 : Int) := oD; have q371 : x6_1 < (l0.length : Int) := oD; obtain ⟨ad371, e371, hx371_0⟩ := Kd.at_int HR0.out x6_1 p371 q371; cases e371; replace hx371_0 := (HB.out.cell (World.block_lt_of_cell? w _ hx371_0)).trans hx371_0; replace p371 := eq_true p371; replace q371 := eq_true q371
        go_upto_region 8 with (first | ((with_reducible refine gate_callee (f := 68) rfl ?_); refine goesK (some 20) Try.func68 #[.int .i64 x3_1, .int .i64 (rd l0 x6_1)] ?_; (with_reducible refine (spec_l1Gcd.calls k1 x3_1 (rd l0 x6_1) t372 _ A4.out).mono ?_); rintro e w6 ⟨rfl, hb⟩; refine ⟨_, rfl, ?_⟩; replace HB := BS hb; (try clear hb)))
        (try simp only [Act.put, List.setIfInBounds_toArray, List.set_cons_zero, List.set_cons_succ])
        go_cut [28] (fun v28 wc => ∃ (kq : Nat) (x28_4 : Bool), v28 = .bool x28_4 ∧ Aside0 (spec_l5Plain.j1 kq l0 t372 x4_1 x5_1 x6_1 x28_4 = some r) ∧ Aside0 (kq ≤ k1) ∧ Aside0 (Below w.heap.size w wc))
        case first =>
          have H := HC5.out; clear HC5
          by_cases c7 : (rd l0 x6_1) = 0
          · rw [if_pos c7] at H
            have c7b0 : ((rd l0 x6_1) == 0) = true := beq_iff_eq.mpr c7; have c7b1 : ((rd l0 x6_1) != 0) = false := bne_eq_false_iff_eq.mpr c7; clear c7
            (first | rw [c7b0] | (simp only [i64_w, i32_w]; rw [c7b0]) | skip)
            have H' := Aside0.mk H; clear H; have p373 : 0 ≤ (x6_1 : Int) := oD; have q373 : x6_1 < (l0.length : Int) := oD; obtain ⟨ad373, e373, hx373_0⟩ := Kd.at_int HR0.out x6_1 p373 q373; obtain rfl : ad371 = ad373 := (by injection e373); replace hx373_0 := (HB.out.cell (World.block_lt_of_cell? w _ hx373_0)).trans hx373_0; replace p373 := eq_true p373; replace q373 := eq_true q373
            go_wp2
            go_meet
            case rel => exact ⟨_, (false), sR, H', ⟨by have := HK1.out; first | omega | exact Nat.le_refl _⟩, ⟨BU⟩⟩
          rw [if_neg c7] at H; have c7b0 : ((rd l0 x6_1) == 0) = false := beq_eq_false_iff_ne.mpr c7; have c7b1 : ((rd l0 x6_1) != 0) = true := bne_iff_ne.mpr c7
          (first | rw [c7b0] | (simp only [i64_w, i32_w]; rw [c7b0]) | skip)
          have H' := Aside0.mk H; clear H; have p373 : 0 ≤ (x6_1 : Int) := oD; have q373 : x6_1 < (l0.length : Int) := oD; obtain ⟨ad373, e373, hx373_0⟩ := Kd.at_int HR0.out x6_1 p373 q373; obtain rfl : ad371 = ad373 := (by injection e373); replace hx373_0 := (HB.out.cell (World.block_lt_of_cell? w _ hx373_0)).trans hx373_0; replace p373 := eq_true p373; replace q373 := eq_true q373
          go_wp2
          go_meet
          case rel => exact ⟨_, (x5_1), sR, H', ⟨by have := HK1.out; first | omega | exact Nat.le_refl _⟩, ⟨BU⟩⟩
        case rest =>
          clear HC5; (try clear c2); (try clear c2b0); (try clear c3); (try clear c3b0); (try clear hx371_0); (try clear p371); (try clear q371); obtain ⟨kq, x28_4, rfl, HA, HJ4, HB⟩ := hcut; cases kq with
          | zero => exact absurd HA.out (by simp [spec_l5Plain.j1])
          | succ kj4 =>
            have H := HA.out; clear HA; simp only [spec_l5Plain.j1] at H
            by_cases c8 : x28_4 = true
            · subst c8
              replace H := ifT H; obtain ⟨c9, H⟩ := ifN H; have c9b0 : decide (0 ≤ x6_1) = true := decide_eq_true c9; clear c9; obtain ⟨c10, H⟩ := ifN H; have c10b0 : decide (x6_1 < (l0.length : Int)) = true := decide_eq_true c10; clear c10
              by_cases c11 : (rd l0 x6_1) < 0
              · rw [if_pos c11] at H
                have c11b0 : decide ((rd l0 x6_1) < 0) = true := decide_eq_true c11; clear c11; have H' := Aside0.mk H; clear H; have p374 : 0 ≤ (x6_1 : Int) := oD; have q374 : x6_1 < (l0.length : Int) := oD; obtain ⟨ad374, e374, hx374_0⟩ := Kd.at_int HR0.out x6_1 p374 q374; obtain rfl : ad371 = ad374 := (by injection e374); replace hx374_0 := (HB.out.cell (World.block_lt_of_cell? w _ hx374_0)).trans hx374_0; replace p374 := eq_true p374; replace q374 := eq_true q374
                go_wp2
                go_roundg kj4
                case measure => have := HK1.out; have := HJ4.out; omega
                case rel => exact ⟨(t372), ((-1)), (false), (wrap64 (x6_1 + 1)), sR, sR, sR, sR, H', ⟨by have := HK1.out; have := HJ4.out; omega⟩, ⟨BU⟩⟩
              rw [if_neg c11] at H; have c11b0 : decide ((rd l0 x6_1) < 0) = false := decide_eq_false c11; clear c11; have H' := Aside0.mk H; clear H; have p374 : 0 ≤ (x6_1 : Int) := oD; have q374 : x6_1 < (l0.length : Int) := oD; obtain ⟨ad374, e374, hx374_0⟩ := Kd.at_int HR0.out x6_1 p374 q374; obtain rfl : ad371 = ad374 := (by injection e374); replace hx374_0 := (HB.out.cell (World.block_lt_of_cell? w _ hx374_0)).trans hx374_0; replace p374 := eq_true p374; replace q374 := eq_true q374
              go_wp2
              go_roundg kj4
              case measure => have := HK1.out; have := HJ4.out; omega
              case rel => exact ⟨(t372), (x4_1), (false), (wrap64 (x6_1 + 1)), sR, sR, sR, sR, H', ⟨by have := HK1.out; have := HJ4.out; omega⟩, ⟨BU⟩⟩
            replace c8 := Bool.eq_false_iff.mpr c8; subst c8; replace H := ifF H; have H' := Aside0.mk H; clear H
            go_wp2
            go_roundg kj4
            case measure => have := HK1.out; have := HJ4.out; omega
            case rel => exact ⟨(t372), (x4_1), (x5_1), (wrap64 (x6_1 + 1)), sR, sR, sR, sR, H', ⟨by have := HK1.out; have := HJ4.out; omega⟩, ⟨BU⟩⟩
      rw [if_neg c2] at H; have c2b0 : decide (x6_1 < (l0.length : Int)) = false := decide_eq_false c2; clear c2; obtain ⟨y375, hy375⟩ : ∃ y_ : List Int, y_ = (([] : List Int)) := ⟨_, rfl⟩; replace H : (spec_l5Plain.l1 k1 l0 x3_1 x4_1 y375 0) = some r := rH hy375 H; have Ny375 := Aside0.mk hy375; clear hy375; have H' := Aside0.mk H; clear H
      go_wp2_with (first | ((with_reducible refine gate_dst (N := 34) rfl ?_); refine Kd.R_lit (Kd.int .i64) _ 3 ?hg (N := 34) ?hd (xs := ([] : List Int)) (inner := []) (ok := fun _ => True) (okp := fun _ => True) ?hr ?hp (fun _ hk => hk) trivial (Below.refl _ _) (Nat.le_refl _) (by simp) ?_; (case hd => rfl); (case hg => rfl); (case hr => first | (go_simp; done) | (go_simp; rfl)); (case hp => exact (Reps.none _ _)); intro v376 w12 ho13 hb hg_ hnew_; clear hg_ hnew_; (first | rw [← Ny375.out] at ho13 | (simp only [Int.reduceToNat] at ho13; rw [← Ny375.out] at ho13)); have HO377 := Aside0.mk (Kd.R_lower ho13 (below_size BU)); replace HB := BS hb; clear hb ho13))
      go_loopg [7, 8] k1 (fun kq v7 v8 w' => ∃ (x7_2 : List Int) (x8_2 : Int), v8 = .int .i64 x8_2 ∧ Aside0 (spec_l5Plain.l1 kq l0 x3_1 x4_1 x7_2 x8_2 = some r) ∧ Aside0 (kq ≤ k1) ∧ Aside0 (Kd.R (Kd.int .i64) 3 w' w.heap.size (fun _ => True) v7 x7_2) ∧ Aside0 (Below w.heap.size w w'))
      case atStart => exact ⟨(y375), (0), sR, H', ⟨Nat.le_refl _⟩, ⟨U HO377.out⟩, ⟨BU⟩⟩
      case round =>
        clear H'; (try clear c2); (try clear c2b0); obtain ⟨x7_2, x8_2, rfl, HA, HK2, HO_7, HB⟩ := hrel; cases gk with
        | zero => exact absurd HA.out (by simp [spec_l5Plain.l1])
        | succ k2 =>
          have H := HA.out; clear HA; simp only [spec_l5Plain.l1] at H
          by_cases c14 : x8_2 < (l0.length : Int)
          · rw [if_pos c14] at H
            have c14b0 : decide (x8_2 < (l0.length : Int)) = true := decide_eq_true c14; clear c14; obtain ⟨c15, H⟩ := ifN H; have c15b0 : decide (0 ≤ x8_2) = true := decide_eq_true c15; clear c15; obtain ⟨c16, H⟩ := ifM H; have c16b0 : (x3_1 == 0) = false := beq_eq_false_iff_ne.mpr c16; have c16b1 : (x3_1 != 0) = true := bne_iff_ne.mpr c16; obtain ⟨c17, H⟩ := ifN H; have LMc17 := Aside0.mk c17; clear c17; obtain ⟨y379, hy379⟩ : ∃ y_ : List Int, y_ = (x7_2 ++ [wrap64 (Int.tdiv (wrap64 (x4_1 * (rd l0 x8_2))) x3_1)]) := ⟨_, rfl⟩; replace H : (spec_l5Plain.l1 k2 l0 x3_1 x4_1 y379 (wrap64 (x8_2 + 1))) = some r := rH hy379 H; have Ny379 := Aside0.mk hy379; clear hy379; have H' := Aside0.mk H; clear H; have p378 : 0 ≤ (x8_2 : Int) := oD; have q378 : x8_2 < (l0.length : Int) := oD; obtain ⟨ad378, e378, hx378_0⟩ := Kd.at_int HR0.out x8_2 p378 q378; cases e378; replace hx378_0 := (HB.out.cell (World.block_lt_of_cell? w _ hx378_0)).trans hx378_0; replace p378 := eq_true p378; replace q378 := eq_true q378
            go_wp2_with (first | ((with_reducible refine gate_builtin (b := .append) (xs := #[.tmp 41, .tmp 50]) rfl ?_); at_builtin; refine Kd.R_append (Kd.int .i64) (w0 := w) w.heap.size rfl (.tmp 41) (.tmp 50) 23 3 (.int .i64 0) 8 rfl Try.underlying23 info3 rfl (by decide) (by omega) u7 x7_2 (wrap64 (Int.tdiv (wrap64 (x4_1 * (rd l0 x8_2))) x3_1)) [.int .i64 (wrap64 (Int.tdiv (wrap64 (x4_1 * (rd l0 x8_2))) x3_1))] (fun _ => True) (fun _ => False) rfl rfl ?aP (fun _ hk => hk.elim) ?aF ?aO ?aB ?aS ?aL ?_; (case aP => exact rfl); (case aB => exact BU); (case aF => exact (fun _ _ => trivial)); (case aO => exact (U HO_7.out)); (case aS => exact (below_size BU)); (case aL => have := LMc17.out; omega); intro v380 w18 ho hb hg hat; rw [← Ny379.out] at ho; have n0_ := Aside0.mk (hb); have n1_ := Aside0.mk (ho); try clear HB; clear HO_7; have HB := n0_; have HO381 := n1_; clear n0_ n1_; clear ho hb hg hat))
            go_roundg k2
            case measure => have := HK1.out; have := HK2.out; omega
            case rel => exact ⟨(y379), (wrap64 (x8_2 + 1)), sR, H', ⟨by have := HK1.out; have := HK2.out; omega⟩, ⟨U HO381.out⟩, ⟨BU⟩⟩
          rw [if_neg c14] at H; have c14b0 : decide (x8_2 < (l0.length : Int)) = false := decide_eq_false c14; clear c14; obtain rfl := Option.some.inj H
          go_wp2
          go_ret
          exact ⟨_, eR, U HO_7.out, BU⟩

end Go.Proofs.Ytpjgcjkodmkemaa.PFnFindZero
