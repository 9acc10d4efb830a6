-- Written by a program of this session (wip/print2.py): the functions that the law reaches, plain, and the walks.
import Derived.Test.YtpaohkhmhdhibaaPFnConicBackx0
import Derived.Test.YtpaohkhmhdhibaaPFnConicBackx6
namespace Go.Proofs.Ytpaohkhmhdhibaa.PFnConicBack
open Go.RowKit Go.Proofs.YtpaohkhmhdhibaaW.PrintWords Go.Proofs.YtpaohkhmhdhibaaW.PrintLast Go.Proofs.YtpaohkhmhdhibaaW.PrintMore
attribute [local go_sem] max2_int min2_int max_two min_two max_three min_three max_four min_four   -- for this text's walks alone
set_option linter.unusedVariables false
set_option linter.unusedSimpArgs false

/-! ### spec_l1Gcd: function 64 -/
def spec_l1Gcd.l0 : Nat → Int → Int → Option (Int)
  | 0, _, _ => none
  | k + 1, x0, x1 => if x1 = 0 then (some x0) else (spec_l1Gcd.l0 k x1 (Int.tmod x0 x1))
def spec_l1Gcd.f (k : Nat) (a0 : Int) (a1 : Int) : Option (Int) := (spec_l1Size.f a0).bind fun t240 => ((spec_l1Size.f a1).bind fun t241 => (spec_l1Gcd.l0 k t240 t241))
theorem spec_l1Gcd.mono_l : ∀ k, (∀ y0 y1, LeO (spec_l1Gcd.l0 k y0 y1) (spec_l1Gcd.l0 (k + 1) y0 y1))
  | 0 => fun _ _ r h => by simp [spec_l1Gcd.l0] at h
  | k + 1 => by
    have ih0 := spec_l1Gcd.mono_l k
    · intro y0 y1
      unfold spec_l1Gcd.l0
      repeat' first
      | (with_reducible exact ih0 _ _)
      | (with_reducible exact LeO.refl _)
      | (with_reducible exact LeO.none _)
      | (with_reducible refine LeO.ite ?_ ?_)
      | (with_reducible refine LeO.bind ?_ (fun _ => ?_))
      | exact ih0 _ _
      | exact LeO.none _
      | refine LeO.ite ?_ ?_
      | refine LeO.bind ?_ (fun _ => ?_)
theorem spec_l1Gcd.mono : ∀ a0 a1 k, LeO (spec_l1Gcd.f k a0 a1) (spec_l1Gcd.f (k + 1) a0 a1) := by
  intro a0 a1 k
  have ih0 := spec_l1Gcd.mono_l k
  unfold spec_l1Gcd.f
  repeat' first
      | (with_reducible exact ih0 _ _)
      | (with_reducible exact LeO.refl _)
      | (with_reducible exact LeO.none _)
      | (with_reducible refine LeO.ite ?_ ?_)
      | (with_reducible refine LeO.bind ?_ (fun _ => ?_))
      | exact ih0 _ _
      | exact LeO.none _
      | refine LeO.ite ?_ ?_
      | refine LeO.bind ?_ (fun _ => ?_)
set_option maxHeartbeats 8000000 in
set_option maxRecDepth 100000 in
theorem spec_l1Gcd.calls (k : Nat) (a0 : Int) (a1 : Int) (r : Int) (w : World) (h : spec_l1Gcd.f k a0 a1 = some r) :
    Calls Try.prog 64 #[.int .i64 a0, .int .i64 a1] w fun e w' => e = .returned (.int .i64 r) ∧ Below w.heap.size w w' := by
  have HB := Aside0.mk (Below.refl w.heap.size w); unfold spec_l1Gcd.f at h; have H := h; clear h; obtain ⟨t240, A3, H⟩ := bnd H; obtain ⟨t241, A4, H⟩ := bnd H; have H' := Aside0.mk H; clear H; go_enter Try.func64, Try.ntmps64
  go_wp2_with (first | ((with_reducible refine gate_callee (f := 62) rfl ?_); refine goesK (some 7) Try.func62 #[.int .i64 a0] ?_; (with_reducible refine (spec_l1Size.calls a0 t240 _ A3.out).mono ?_); rintro e w5 ⟨rfl, hb⟩; refine ⟨_, rfl, ?_⟩; replace HB := BS hb; (try clear hb)) | ((with_reducible refine gate_callee (f := 62) rfl ?_); refine goesK (some 9) Try.func62 #[.int .i64 a1] ?_; (with_reducible refine (spec_l1Size.calls a1 t241 _ A4.out).mono ?_); rintro e w6 ⟨rfl, hb⟩; refine ⟨_, rfl, ?_⟩; replace HB := BS hb; (try clear hb)))
  go_loopg [0, 1] k (fun kq v0 v1 w' => ∃ (x0_1 : Int) (x1_1 : Int), v0 = .int .i64 x0_1 ∧ v1 = .int .i64 x1_1 ∧ Aside0 (spec_l1Gcd.l0 kq x0_1 x1_1 = some r) ∧ Aside0 (kq ≤ k) ∧ Aside0 (Below w.heap.size w w'))
  case atStart => exact ⟨(t240), (t241), sR, sR, H', ⟨Nat.le_refl _⟩, ⟨BU⟩⟩
  case round =>
    clear H'; obtain ⟨x0_1, x1_1, rfl, rfl, HA, HK1, HB⟩ := hrel; cases gk with
    | zero => exact absurd HA.out (by simp [spec_l1Gcd.l0])
    | succ k1 =>
      have H := HA.out; clear HA; simp only [spec_l1Gcd.l0] at H
      by_cases c7 : x1_1 = 0
      · rw [if_pos c7] at H
        have c7b0 : (x1_1 == 0) = true := beq_iff_eq.mpr c7; have c7b1 : (x1_1 != 0) = false := bne_eq_false_iff_eq.mpr c7; clear c7; obtain rfl := Option.some.inj H
        go_wp2
        go_ret
        exact ⟨eR, BU⟩
      rw [if_neg c7] at H; have c7b0 : (x1_1 == 0) = false := beq_eq_false_iff_ne.mpr c7; have c7b1 : (x1_1 != 0) = true := bne_iff_ne.mpr c7; have H' := Aside0.mk H; clear H
      go_wp2
      go_roundg k1
      case measure => have := HK1.out; omega
      case rel => exact ⟨(x1_1), (Int.tmod x0_1 x1_1), sR, sR, H', ⟨by have := HK1.out; omega⟩, ⟨BU⟩⟩

/-! ### spec_l5Plain: function 48 -/
mutual
def spec_l5Plain.l0 : Nat → List Int → Int → Int → Bool → Int → Option (List Int)
  | 0, _, _, _, _, _ => none
  | k + 1, x0, x3, x4, x5, x6 => if x6 < (x0.length : Int) then (if 0 ≤ x6 then ((spec_l1Gcd.f k x3 (rd x0 x6)).bind fun t243 => (if (rd x0 x6) = 0 then (spec_l5Plain.j1 k x0 t243 x4 x5 x6 false) else (spec_l5Plain.j1 k x0 t243 x4 x5 x6 x5))) else (none)) else (spec_l5Plain.l1 k x0 x3 x4 (([] : List Int)) 0)
def spec_l5Plain.j1 : Nat → List Int → Int → Int → Bool → Int → Bool → Option (List Int)
  | 0, _, _, _, _, _, _ => none
  | k + 1, x0, x3, x4, x5, x6, x28 => if x28 = true then (if 0 ≤ x6 then (if x6 < (x0.length : Int) then (if (rd x0 x6) < 0 then (spec_l5Plain.l0 k x0 x3 (-1) false (wrap64 (x6 + 1))) else (spec_l5Plain.l0 k x0 x3 x4 false (wrap64 (x6 + 1)))) else (none)) else (none)) else (spec_l5Plain.l0 k x0 x3 x4 x5 (wrap64 (x6 + 1)))
def spec_l5Plain.l1 : Nat → List Int → Int → Int → List Int → Int → Option (List Int)
  | 0, _, _, _, _, _ => none
  | k + 1, x0, x3, x4, x7, x8 => if x8 < (x0.length : Int) then (if 0 ≤ x8 then (if x3 = 0 then (none) else (if x7.length < 17592186044416 then (spec_l5Plain.l1 k x0 x3 x4 (x7 ++ [wrap64 (Int.tdiv (wrap64 (x4 * (rd x0 x8))) x3)]) (wrap64 (x8 + 1))) else (none))) else (none)) else (some x7)
end
def spec_l5Plain.f (k : Nat) (l0 : List Int) : Option (List Int) := spec_l5Plain.l0 k l0 0 1 true 0
theorem spec_l5Plain.mono_l : ∀ k, (∀ y0 y1 y2 y3 y4, LeO (spec_l5Plain.l0 k y0 y1 y2 y3 y4) (spec_l5Plain.l0 (k + 1) y0 y1 y2 y3 y4)) ∧ (∀ y0 y1 y2 y3 y4 y5, LeO (spec_l5Plain.j1 k y0 y1 y2 y3 y4 y5) (spec_l5Plain.j1 (k + 1) y0 y1 y2 y3 y4 y5)) ∧ (∀ y0 y1 y2 y3 y4, LeO (spec_l5Plain.l1 k y0 y1 y2 y3 y4) (spec_l5Plain.l1 (k + 1) y0 y1 y2 y3 y4))
  | 0 => ⟨fun _ _ _ _ _ r h => by simp [spec_l5Plain.l0] at h, fun _ _ _ _ _ _ r h => by simp [spec_l5Plain.j1] at h, fun _ _ _ _ _ r h => by simp [spec_l5Plain.l1] at h⟩
  | k + 1 => by
    obtain ⟨ih0, ih1, ih2⟩ := spec_l5Plain.mono_l k
    refine ⟨?_, ?_, ?_⟩ <;> intros <;> (first | unfold spec_l5Plain.l0 | unfold spec_l5Plain.j1 | unfold spec_l5Plain.l1) <;> (repeat' first
      | (with_reducible exact ih0 _ _ _ _ _)
      | (with_reducible exact ih1 _ _ _ _ _ _)
      | (with_reducible exact ih2 _ _ _ _ _)
      | (with_reducible exact spec_l1Gcd.mono _ _ _)
      | (with_reducible exact LeO.refl _)
      | (with_reducible exact LeO.none _)
      | (with_reducible refine LeO.ite ?_ ?_)
      | (with_reducible refine LeO.bind ?_ (fun _ => ?_))
      | exact ih0 _ _ _ _ _
      | exact ih1 _ _ _ _ _ _
      | exact ih2 _ _ _ _ _
      | exact spec_l1Gcd.mono _ _ _
      | exact LeO.none _
      | refine LeO.ite ?_ ?_
      | refine LeO.bind ?_ (fun _ => ?_))
theorem spec_l5Plain.mono : ∀ a0 k, LeO (spec_l5Plain.f k a0) (spec_l5Plain.f (k + 1) a0) := by
  intro a0 k
  obtain ⟨ih0, ih1, ih2⟩ := spec_l5Plain.mono_l k
  unfold spec_l5Plain.f
  repeat' first
      | (with_reducible exact ih0 _ _ _ _ _)
      | (with_reducible exact ih1 _ _ _ _ _ _)
      | (with_reducible exact ih2 _ _ _ _ _)
      | (with_reducible exact spec_l1Gcd.mono _ _ _)
      | (with_reducible exact LeO.refl _)
      | (with_reducible exact LeO.none _)
      | (with_reducible refine LeO.ite ?_ ?_)
      | (with_reducible refine LeO.bind ?_ (fun _ => ?_))
      | exact ih0 _ _ _ _ _
      | exact ih1 _ _ _ _ _ _
      | exact ih2 _ _ _ _ _
      | exact spec_l1Gcd.mono _ _ _
      | exact LeO.none _
      | refine LeO.ite ?_ ?_
      | refine LeO.bind ?_ (fun _ => ?_)
set_option maxHeartbeats 8000000 in
set_option maxRecDepth 100000 in
theorem spec_l5Plain.calls (k : Nat) (A0 : Option Addr) (c0 : Nat) (l0 : List Int) (r : List Int) (w : World) (hr0 : Kd.C (Kd.int .i64) w A0 l0.length l0) (hc0 : l0.length ≤ c0) (h : spec_l5Plain.f k l0 = some r) :
    Calls Try.prog 48 #[.slice A0 l0.length c0] w fun e w' => ∃ v0_ : Value, e = .returned (v0_) ∧ Kd.R (Kd.int .i64) 3 w' w.heap.size (fun _ => True) v0_ r ∧ Below w.heap.size w w' := by
  have HR0 := Aside0.mk hr0; have HC0 := Aside0.mk hc0; clear hr0 hc0; have HB := Aside0.mk (Below.refl w.heap.size w); unfold spec_l5Plain.f at h; have H := h; clear h; have H' := Aside0.mk H; clear H; go_enter Try.func48, Try.ntmps48
  go_wp2
  go_loopg [3, 4, 5, 6] k (fun kq v3 v4 v5 v6 w' => ∃ (x3_1 : Int) (x4_1 : Int) (x5_1 : Bool) (x6_1 : Int), v3 = .int .i64 x3_1 ∧ v4 = .int .i64 x4_1 ∧ v5 = .bool x5_1 ∧ v6 = .int .i64 x6_1 ∧ Aside0 (spec_l5Plain.l0 kq l0 x3_1 x4_1 x5_1 x6_1 = some r) ∧ Aside0 (kq ≤ k) ∧ Aside0 (Below w.heap.size w w'))
  case atStart => exact ⟨(0), (1), (true), (0), sR, sR, sR, sR, H', ⟨Nat.le_refl _⟩, ⟨BU⟩⟩
  case round =>
    clear H'; obtain ⟨x3_1, x4_1, x5_1, x6_1, rfl, rfl, rfl, rfl, HA, HK1, HB⟩ := hrel; cases gk with
    | zero => exact absurd HA.out (by simp [spec_l5Plain.l0])
    | succ k1 =>
      have H := HA.out; clear HA; simp only [spec_l5Plain.l0] at H
      by_cases c2 : x6_1 < (l0.length : Int)
      · rw [if_pos c2] at H
        have c2b0 : decide (x6_1 < (l0.length : Int)) = true := decide_eq_true c2; clear c2; obtain ⟨c3, H⟩ := ifN H; have c3b0 : decide (0 ≤ x6_1) = true := decide_eq_true c3; clear c3; obtain ⟨t243, A4, H⟩ := bnd H; have HC5 := Aside0.mk H; clear H; have p242 : 0 ≤ (x6_1 : Int) := oD; have q242 : x6_1 < (l0.length : Int) := oD; obtain ⟨ad242, e242, hx242_0⟩ := Kd.at_int HR0.out x6_1 p242 q242; cases e242; replace hx242_0 := (HB.out.cell (World.block_lt_of_cell? w _ hx242_0)).trans hx242_0; replace p242 := eq_true p242; replace q242 := eq_true q242
        go_upto_region 8 with (first | ((with_reducible refine gate_callee (f := 64) rfl ?_); refine goesK (some 20) Try.func64 #[.int .i64 x3_1, .int .i64 (rd l0 x6_1)] ?_; (with_reducible refine (spec_l1Gcd.calls k1 x3_1 (rd l0 x6_1) t243 _ A4.out).mono ?_); rintro e w6 ⟨rfl, hb⟩; refine ⟨_, rfl, ?_⟩; replace HB := BS hb; (try clear hb)))
        (try simp only [Act.put, List.setIfInBounds_toArray, List.set_cons_zero, List.set_cons_succ])
        go_cut [28] (fun v28 wc => ∃ (kq : Nat) (x28_4 : Bool), v28 = .bool x28_4 ∧ Aside0 (spec_l5Plain.j1 kq l0 t243 x4_1 x5_1 x6_1 x28_4 = some r) ∧ Aside0 (kq ≤ k1) ∧ Aside0 (Below w.heap.size w wc))
        case first =>
          have H := HC5.out; clear HC5
          by_cases c7 : (rd l0 x6_1) = 0
          · rw [if_pos c7] at H
            have c7b0 : ((rd l0 x6_1) == 0) = true := beq_iff_eq.mpr c7; have c7b1 : ((rd l0 x6_1) != 0) = false := bne_eq_false_iff_eq.mpr c7; clear c7
            (first | rw [c7b0] | (simp only [i64_w, i32_w]; rw [c7b0]) | skip)
            have H' := Aside0.mk H; clear H; have p244 : 0 ≤ (x6_1 : Int) := oD; have q244 : x6_1 < (l0.length : Int) := oD; obtain ⟨ad244, e244, hx244_0⟩ := Kd.at_int HR0.out x6_1 p244 q244; obtain rfl : ad242 = ad244 := (by injection e244); replace hx244_0 := (HB.out.cell (World.block_lt_of_cell? w _ hx244_0)).trans hx244_0; replace p244 := eq_true p244; replace q244 := eq_true q244
            go_wp2
            go_meet
            case rel => exact ⟨_, (false), sR, H', ⟨by have := HK1.out; first | omega | exact Nat.le_refl _⟩, ⟨BU⟩⟩
          rw [if_neg c7] at H; have c7b0 : ((rd l0 x6_1) == 0) = false := beq_eq_false_iff_ne.mpr c7; have c7b1 : ((rd l0 x6_1) != 0) = true := bne_iff_ne.mpr c7
          (first | rw [c7b0] | (simp only [i64_w, i32_w]; rw [c7b0]) | skip)
          have H' := Aside0.mk H; clear H; have p244 : 0 ≤ (x6_1 : Int) := oD; have q244 : x6_1 < (l0.length : Int) := oD; obtain ⟨ad244, e244, hx244_0⟩ := Kd.at_int HR0.out x6_1 p244 q244; obtain rfl : ad242 = ad244 := (by injection e244); replace hx244_0 := (HB.out.cell (World.block_lt_of_cell? w _ hx244_0)).trans hx244_0; replace p244 := eq_true p244; replace q244 := eq_true q244
          go_wp2
          go_meet
          case rel => exact ⟨_, (x5_1), sR, H', ⟨by have := HK1.out; first | omega | exact Nat.le_refl _⟩, ⟨BU⟩⟩
        case rest =>
          clear HC5; (try clear c2); (try clear c2b0); (try clear c3); (try clear c3b0); (try clear hx242_0); (try clear p242); (try clear q242); obtain ⟨kq, x28_4, rfl, HA, HJ4, HB⟩ := hcut; cases kq with
          | zero => exact absurd HA.out (by simp [spec_l5Plain.j1])
          | succ kj4 =>
            have H := HA.out; clear HA; simp only [spec_l5Plain.j1] at H
            by_cases c8 : x28_4 = true
            · subst c8
              replace H := ifT H; obtain ⟨c9, H⟩ := ifN H; have c9b0 : decide (0 ≤ x6_1) = true := decide_eq_true c9; clear c9; obtain ⟨c10, H⟩ := ifN H; have c10b0 : decide (x6_1 < (l0.length : Int)) = true := decide_eq_true c10; clear c10
              by_cases c11 : (rd l0 x6_1) < 0
              · rw [if_pos c11] at H
                have c11b0 : decide ((rd l0 x6_1) < 0) = true := decide_eq_true c11; clear c11; have H' := Aside0.mk H; clear H; have p245 : 0 ≤ (x6_1 : Int) := oD; have q245 : x6_1 < (l0.length : Int) := oD; obtain ⟨ad245, e245, hx245_0⟩ := Kd.at_int HR0.out x6_1 p245 q245; obtain rfl : ad242 = ad245 := (by injection e245); replace hx245_0 := (HB.out.cell (World.block_lt_of_cell? w _ hx245_0)).trans hx245_0; replace p245 := eq_true p245; replace q245 := eq_true q245
                go_wp2
                go_roundg kj4
                case measure => have := HK1.out; have := HJ4.out; omega
                case rel => exact ⟨(t243), ((-1)), (false), (wrap64 (x6_1 + 1)), sR, sR, sR, sR, H', ⟨by have := HK1.out; have := HJ4.out; omega⟩, ⟨BU⟩⟩
              rw [if_neg c11] at H; have c11b0 : decide ((rd l0 x6_1) < 0) = false := decide_eq_false c11; clear c11; have H' := Aside0.mk H; clear H; have p245 : 0 ≤ (x6_1 : Int) := oD; have q245 : x6_1 < (l0.length : Int) := oD; obtain ⟨ad245, e245, hx245_0⟩ := Kd.at_int HR0.out x6_1 p245 q245; obtain rfl : ad242 = ad245 := (by injection e245); replace hx245_0 := (HB.out.cell (World.block_lt_of_cell? w _ hx245_0)).trans hx245_0; replace p245 := eq_true p245; replace q245 := eq_true q245
              go_wp2
              go_roundg kj4
              case measure => have := HK1.out; have := HJ4.out; omega
              case rel => exact ⟨(t243), (x4_1), (false), (wrap64 (x6_1 + 1)), sR, sR, sR, sR, H', ⟨by have := HK1.out; have := HJ4.out; omega⟩, ⟨BU⟩⟩
            replace c8 := Bool.eq_false_iff.mpr c8; subst c8; replace H := ifF H; have H' := Aside0.mk H; clear H
            go_wp2
            go_roundg kj4
            case measure => have := HK1.out; have := HJ4.out; omega
            case rel => exact ⟨(t243), (x4_1), (x5_1), (wrap64 (x6_1 + 1)), sR, sR, sR, sR, H', ⟨by have := HK1.out; have := HJ4.out; omega⟩, ⟨BU⟩⟩
      rw [if_neg c2] at H; have c2b0 : decide (x6_1 < (l0.length : Int)) = false := decide_eq_false c2; clear c2; obtain ⟨y246, hy246⟩ : ∃ y_ : List Int, y_ = (([] : List Int)) := ⟨_, rfl⟩; replace H : (spec_l5Plain.l1 k1 l0 x3_1 x4_1 y246 0) = some r := rH hy246 H; have Ny246 := Aside0.mk hy246; clear hy246; have H' := Aside0.mk H; clear H
      go_wp2_with (first | ((with_reducible refine gate_dst (N := 34) rfl ?_); refine Kd.R_lit (Kd.int .i64) _ 3 ?hg (N := 34) ?hd (xs := ([] : List Int)) (inner := []) (ok := fun _ => True) (okp := fun _ => True) ?hr ?hp (fun _ hk => hk) trivial (Below.refl _ _) (Nat.le_refl _) (by simp) ?_; (case hd => rfl); (case hg => rfl); (case hr => first | (go_simp; done) | (go_simp; rfl)); (case hp => exact (Reps.none _ _)); intro v247 w12 ho13 hb hg_ hnew_; clear hg_ hnew_; (first | rw [← Ny246.out] at ho13 | (simp only [Int.reduceToNat] at ho13; rw [← Ny246.out] at ho13)); have HO248 := Aside0.mk (Kd.R_lower ho13 (below_size BU)); replace HB := BS hb; clear hb ho13))
      go_loopg [7, 8] k1 (fun kq v7 v8 w' => ∃ (x7_2 : List Int) (x8_2 : Int), v8 = .int .i64 x8_2 ∧ Aside0 (spec_l5Plain.l1 kq l0 x3_1 x4_1 x7_2 x8_2 = some r) ∧ Aside0 (kq ≤ k1) ∧ Aside0 (Kd.R (Kd.int .i64) 3 w' w.heap.size (fun _ => True) v7 x7_2) ∧ Aside0 (Below w.heap.size w w'))
      case atStart => exact ⟨(y246), (0), sR, H', ⟨Nat.le_refl _⟩, ⟨U HO248.out⟩, ⟨BU⟩⟩
      case round =>
        clear H'; (try clear c2); (try clear c2b0); obtain ⟨x7_2, x8_2, rfl, HA, HK2, HO_7, HB⟩ := hrel; cases gk with
        | zero => exact absurd HA.out (by simp [spec_l5Plain.l1])
        | succ k2 =>
          have H := HA.out; clear HA; simp only [spec_l5Plain.l1] at H
          by_cases c14 : x8_2 < (l0.length : Int)
          · rw [if_pos c14] at H
            have c14b0 : decide (x8_2 < (l0.length : Int)) = true := decide_eq_true c14; clear c14; obtain ⟨c15, H⟩ := ifN H; have c15b0 : decide (0 ≤ x8_2) = true := decide_eq_true c15; clear c15; obtain ⟨c16, H⟩ := ifM H; have c16b0 : (x3_1 == 0) = false := beq_eq_false_iff_ne.mpr c16; have c16b1 : (x3_1 != 0) = true := bne_iff_ne.mpr c16; obtain ⟨c17, H⟩ := ifN H; have LMc17 := Aside0.mk c17; clear c17; obtain ⟨y250, hy250⟩ : ∃ y_ : List Int, y_ = (x7_2 ++ [wrap64 (Int.tdiv (wrap64 (x4_1 * (rd l0 x8_2))) x3_1)]) := ⟨_, rfl⟩; replace H : (spec_l5Plain.l1 k2 l0 x3_1 x4_1 y250 (wrap64 (x8_2 + 1))) = some r := rH hy250 H; have Ny250 := Aside0.mk hy250; clear hy250; have H' := Aside0.mk H; clear H; have p249 : 0 ≤ (x8_2 : Int) := oD; have q249 : x8_2 < (l0.length : Int) := oD; obtain ⟨ad249, e249, hx249_0⟩ := Kd.at_int HR0.out x8_2 p249 q249; cases e249; replace hx249_0 := (HB.out.cell (World.block_lt_of_cell? w _ hx249_0)).trans hx249_0; replace p249 := eq_true p249; replace q249 := eq_true q249
            go_wp2_with (first | ((with_reducible refine gate_builtin (b := .append) (xs := #[.tmp 41, .tmp 50]) rfl ?_); at_builtin; refine Kd.R_append (Kd.int .i64) (w0 := w) w.heap.size rfl (.tmp 41) (.tmp 50) 23 3 (.int .i64 0) 8 rfl Try.underlying23 info3 rfl (by decide) (by omega) u7 x7_2 (wrap64 (Int.tdiv (wrap64 (x4_1 * (rd l0 x8_2))) x3_1)) [.int .i64 (wrap64 (Int.tdiv (wrap64 (x4_1 * (rd l0 x8_2))) x3_1))] (fun _ => True) (fun _ => False) rfl rfl ?aP (fun _ hk => hk.elim) ?aF ?aO ?aB ?aS ?aL ?_; (case aP => exact rfl); (case aB => exact BU); (case aF => exact (fun _ _ => trivial)); (case aO => exact (U HO_7.out)); (case aS => exact (below_size BU)); (case aL => have := LMc17.out; omega); intro v251 w18 ho hb hg hat; rw [← Ny250.out] at ho; have n0_ := Aside0.mk (hb); have n1_ := Aside0.mk (ho); try clear HB; clear HO_7; have HB := n0_; have HO252 := n1_; clear n0_ n1_; clear ho hb hg hat))
            go_roundg k2
            case measure => have := HK1.out; have := HK2.out; omega
            case rel => exact ⟨(y250), (wrap64 (x8_2 + 1)), sR, H', ⟨by have := HK1.out; have := HK2.out; omega⟩, ⟨U HO252.out⟩, ⟨BU⟩⟩
          rw [if_neg c14] at H; have c14b0 : decide (x8_2 < (l0.length : Int)) = false := decide_eq_false c14; clear c14; obtain rfl := Option.some.inj H
          go_wp2
          go_ret
          exact ⟨_, eR, U HO_7.out, BU⟩

/-! ### spec_l6kPlain: function 35 -/
def spec_l6kPlain.l0 : Nat → List Int → List Int → Int → Option (Bool)
  | 0, _, _, _ => none
  | k + 1, x0, x3, x4 => if x4 < (x0.length : Int) then (if 0 ≤ x4 then (if x4 < (x3.length : Int) then (if (rd x3 x4) = (rd x0 x4) then (spec_l6kPlain.l0 k x0 x3 (wrap64 (x4 + 1))) else (some false)) else (none)) else (none)) else (some true)
def spec_l6kPlain.f (k : Nat) (l0 : List Int) : Option (Bool) := (spec_l5Plain.f k l0).bind fun t253 => (spec_l6kPlain.l0 k l0 t253 0)
theorem spec_l6kPlain.mono_l : ∀ k, (∀ y0 y1 y2, LeO (spec_l6kPlain.l0 k y0 y1 y2) (spec_l6kPlain.l0 (k + 1) y0 y1 y2))
  | 0 => fun _ _ _ r h => by simp [spec_l6kPlain.l0] at h
  | k + 1 => by
    have ih0 := spec_l6kPlain.mono_l k
    · intro y0 y1 y2
      unfold spec_l6kPlain.l0
      repeat' first
      | (with_reducible exact ih0 _ _ _)
      | (with_reducible exact spec_l5Plain.mono _ _)
      | (with_reducible exact LeO.refl _)
      | (with_reducible exact LeO.none _)
      | (with_reducible refine LeO.ite ?_ ?_)
      | (with_reducible refine LeO.bind ?_ (fun _ => ?_))
      | exact ih0 _ _ _
      | exact spec_l5Plain.mono _ _
      | exact LeO.none _
      | refine LeO.ite ?_ ?_
      | refine LeO.bind ?_ (fun _ => ?_)
theorem spec_l6kPlain.mono : ∀ a0 k, LeO (spec_l6kPlain.f k a0) (spec_l6kPlain.f (k + 1) a0) := by
  intro a0 k
  have ih0 := spec_l6kPlain.mono_l k
  unfold spec_l6kPlain.f
  repeat' first
      | (with_reducible exact ih0 _ _ _)
      | (with_reducible exact spec_l5Plain.mono _ _)
      | (with_reducible exact LeO.refl _)
      | (with_reducible exact LeO.none _)
      | (with_reducible refine LeO.ite ?_ ?_)
      | (with_reducible refine LeO.bind ?_ (fun _ => ?_))
      | exact ih0 _ _ _
      | exact spec_l5Plain.mono _ _
      | exact LeO.none _
      | refine LeO.ite ?_ ?_
      | refine LeO.bind ?_ (fun _ => ?_)
set_option maxHeartbeats 8000000 in
set_option maxRecDepth 100000 in
theorem spec_l6kPlain.calls (k : Nat) (A0 : Option Addr) (c0 : Nat) (l0 : List Int) (r : Bool) (w : World) (hr0 : Kd.C (Kd.int .i64) w A0 l0.length l0) (hc0 : l0.length ≤ c0) (h : spec_l6kPlain.f k l0 = some r) :
    Calls Try.prog 35 #[.slice A0 l0.length c0] w fun e w' => e = .returned (.bool r) ∧ Below w.heap.size w w' := by
  have HR0 := Aside0.mk hr0; have HC0 := Aside0.mk hc0; clear hr0 hc0; have HB := Aside0.mk (Below.refl w.heap.size w); unfold spec_l6kPlain.f at h; have H := h; clear h; obtain ⟨t253, A2, H⟩ := bnd H; have H' := Aside0.mk H; clear H; go_enter Try.func35, Try.ntmps35
  go_wp2_with (first | (go_at_call 48; (with_reducible refine (spec_l5Plain.calls k _ _ l0 t253 _ ?side1 ?side2 A2.out).mono ?_); (case side1 => exact U HR0.out); (case side2 => exact HC0.out); rintro e w3 ⟨v254, rfl, ho0, hb⟩; have HO255 := Aside0.mk (Kd.R_lower ho0 (below_size BU)); replace HB := BS hb; (try clear hb); (try clear ho0)))
  repeat (go_quiet (first | (go_at_call 48; (with_reducible refine (spec_l5Plain.calls k _ _ l0 t253 _ ?side1 ?side2 A2.out).mono ?_); (case side1 => exact U HR0.out); (case side2 => exact HC0.out); rintro e w3 ⟨v254, rfl, ho0, hb⟩; have HO255 := Aside0.mk (Kd.R_lower ho0 (below_size BU)); replace HB := BS hb; (try clear hb); (try clear ho0))); try go_wp2_with (first | (go_at_call 48; (with_reducible refine (spec_l5Plain.calls k _ _ l0 t253 _ ?side1 ?side2 A2.out).mono ?_); (case side1 => exact U HR0.out); (case side2 => exact HC0.out); rintro e w3 ⟨v254, rfl, ho0, hb⟩; have HO255 := Aside0.mk (Kd.R_lower ho0 (below_size BU)); replace HB := BS hb; (try clear hb); (try clear ho0))))
  go_loopg [4] k (fun kq v4 w' => ∃ (x4_1 : Int), v4 = .int .i64 x4_1 ∧ Aside0 (spec_l6kPlain.l0 kq l0 t253 x4_1 = some r) ∧ Aside0 (kq ≤ k) ∧ Aside0 (Kd.R (Kd.int .i64) 3 w' w.heap.size (fun _ => True) v254 t253) ∧ Aside0 (Below w.heap.size w w'))
  case atStart => exact ⟨(0), sR, H', ⟨Nat.le_refl _⟩, ⟨U HO255.out⟩, ⟨BU⟩⟩
  case round =>
    clear H'; obtain ⟨x4_1, rfl, HA, HK1, HO_3, HB⟩ := hrel; cases gk with
    | zero => exact absurd HA.out (by simp [spec_l6kPlain.l0])
    | succ k1 =>
      have H := HA.out; clear HA; simp only [spec_l6kPlain.l0] at H
      by_cases c4 : x4_1 < (l0.length : Int)
      · rw [if_pos c4] at H
        have c4b0 : decide (x4_1 < (l0.length : Int)) = true := decide_eq_true c4; clear c4; obtain ⟨c5, H⟩ := ifN H; have c5b0 : decide (0 ≤ x4_1) = true := decide_eq_true c5; clear c5; obtain ⟨c6, H⟩ := ifN H; have c6b0 : decide (x4_1 < (t253.length : Int)) = true := decide_eq_true c6; clear c6
        by_cases c7 : (rd t253 x4_1) = (rd l0 x4_1)
        · rw [if_pos c7] at H
          have c7b0 : ((rd t253 x4_1) == (rd l0 x4_1)) = true := beq_iff_eq.mpr c7; have c7b1 : ((rd t253 x4_1) != (rd l0 x4_1)) = false := bne_eq_false_iff_eq.mpr c7; clear c7; have H' := Aside0.mk H; clear H; obtain ⟨Ao8, co8, eo8⟩ := Kd.R_slice HO_3.out; subst eo8; have p256 : 0 ≤ (x4_1 : Int) := oD; have q256 : x4_1 < (t253.length : Int) := oD; obtain ⟨ad256, e256, hx256_0⟩ := Kd.at_int (Kd.R_reads' HO_3.out).2.2 x4_1 p256 q256; cases e256; replace p256 := eq_true p256; replace q256 := eq_true q256; have p257 : 0 ≤ (x4_1 : Int) := oD; have q257 : x4_1 < (l0.length : Int) := oD; obtain ⟨ad257, e257, hx257_0⟩ := Kd.at_int HR0.out x4_1 p257 q257; cases e257; replace hx257_0 := (HB.out.cell (World.block_lt_of_cell? w _ hx257_0)).trans hx257_0; replace p257 := eq_true p257; replace q257 := eq_true q257
          go_wp2
          repeat (go_quiet (fail); try go_wp2)
          go_roundg k1
          case measure => have := HK1.out; omega
          case rel => exact ⟨(wrap64 (x4_1 + 1)), sR, H', ⟨by have := HK1.out; omega⟩, ⟨U HO_3.out⟩, ⟨BU⟩⟩
        rw [if_neg c7] at H; have c7b0 : ((rd t253 x4_1) == (rd l0 x4_1)) = false := beq_eq_false_iff_ne.mpr c7; have c7b1 : ((rd t253 x4_1) != (rd l0 x4_1)) = true := bne_iff_ne.mpr c7; obtain rfl := Option.some.inj H; obtain ⟨Ao9, co9, eo9⟩ := Kd.R_slice HO_3.out; subst eo9; have p256 : 0 ≤ (x4_1 : Int) := oD; have q256 : x4_1 < (t253.length : Int) := oD; obtain ⟨ad256, e256, hx256_0⟩ := Kd.at_int (Kd.R_reads' HO_3.out).2.2 x4_1 p256 q256; cases e256; replace p256 := eq_true p256; replace q256 := eq_true q256; have p257 : 0 ≤ (x4_1 : Int) := oD; have q257 : x4_1 < (l0.length : Int) := oD; obtain ⟨ad257, e257, hx257_0⟩ := Kd.at_int HR0.out x4_1 p257 q257; cases e257; replace hx257_0 := (HB.out.cell (World.block_lt_of_cell? w _ hx257_0)).trans hx257_0; replace p257 := eq_true p257; replace q257 := eq_true q257
        go_wp2
        repeat (go_quiet (fail); try go_wp2)
        go_ret
        exact ⟨eR, BU⟩
      rw [if_neg c4] at H; have c4b0 : decide (x4_1 < (l0.length : Int)) = false := decide_eq_false c4; clear c4; obtain rfl := Option.some.inj H
      go_wp2
      repeat (go_quiet (fail); try go_wp2)
      go_ret
      exact ⟨eR, BU⟩

/-! ### spec_ZeroHeight: function 36 -/
def spec_ZeroHeight.l0 : Nat → List Int → Int → Int → Option (Int)
  | 0, _, _, _ => none
  | k + 1, x1, x5, x6 => if x6 < (x1.length : Int) then (if 0 ≤ x6 then ((spec_l1Size.f (rd x1 x6)).bind fun t260 => (spec_ZeroHeight.l0 k x1 (mx x5 t260) (wrap64 (x6 + 1)))) else (none)) else (some x5)
def spec_ZeroHeight.f (k : Nat) (l0 : List Int) (l1 : List Int) : Option (Int) := (spec_ZeroIs.f k l0 l1).bind fun t258 => (if t258 = true then (spec_ZeroHeight.l0 k l1 0 0) else (some (-1)))
theorem spec_ZeroHeight.mono_l : ∀ k, (∀ y0 y1 y2, LeO (spec_ZeroHeight.l0 k y0 y1 y2) (spec_ZeroHeight.l0 (k + 1) y0 y1 y2))
  | 0 => fun _ _ _ r h => by simp [spec_ZeroHeight.l0] at h
  | k + 1 => by
    have ih0 := spec_ZeroHeight.mono_l k
    · intro y0 y1 y2
      unfold spec_ZeroHeight.l0
      repeat' first
      | (with_reducible exact ih0 _ _ _)
      | (with_reducible exact spec_ZeroIs.mono _ _ _)
      | (with_reducible exact LeO.refl _)
      | (with_reducible exact LeO.none _)
      | (with_reducible refine LeO.ite ?_ ?_)
      | (with_reducible refine LeO.bind ?_ (fun _ => ?_))
      | exact ih0 _ _ _
      | exact spec_ZeroIs.mono _ _ _
      | exact LeO.none _
      | refine LeO.ite ?_ ?_
      | refine LeO.bind ?_ (fun _ => ?_)
theorem spec_ZeroHeight.mono : ∀ a0 a1 k, LeO (spec_ZeroHeight.f k a0 a1) (spec_ZeroHeight.f (k + 1) a0 a1) := by
  intro a0 a1 k
  have ih0 := spec_ZeroHeight.mono_l k
  unfold spec_ZeroHeight.f
  repeat' first
      | (with_reducible exact ih0 _ _ _)
      | (with_reducible exact spec_ZeroIs.mono _ _ _)
      | (with_reducible exact LeO.refl _)
      | (with_reducible exact LeO.none _)
      | (with_reducible refine LeO.ite ?_ ?_)
      | (with_reducible refine LeO.bind ?_ (fun _ => ?_))
      | exact ih0 _ _ _
      | exact spec_ZeroIs.mono _ _ _
      | exact LeO.none _
      | refine LeO.ite ?_ ?_
      | refine LeO.bind ?_ (fun _ => ?_)
set_option maxHeartbeats 8000000 in
set_option maxRecDepth 100000 in
theorem spec_ZeroHeight.calls (k : Nat) (A0 : Option Addr) (c0 : Nat) (l0 : List Int) (A1 : Option Addr) (c1 : Nat) (l1 : List Int) (r : Int) (w : World) (hr0 : Kd.C (Kd.int .i64) w A0 l0.length l0) (hc0 : l0.length ≤ c0) (hr1 : Kd.C (Kd.int .i64) w A1 l1.length l1) (hc1 : l1.length ≤ c1) (h : spec_ZeroHeight.f k l0 l1 = some r) :
    Calls Try.prog 36 #[.slice A0 l0.length c0, .slice A1 l1.length c1] w fun e w' => e = .returned (.int .i64 r) ∧ Below w.heap.size w w' := by
  have HR0 := Aside0.mk hr0; have HC0 := Aside0.mk hc0; clear hr0 hc0; have HR1 := Aside0.mk hr1; have HC1 := Aside0.mk hc1; clear hr1 hc1; have HB := Aside0.mk (Below.refl w.heap.size w); unfold spec_ZeroHeight.f at h; have H := h; clear h; obtain ⟨t258, A3, H⟩ := bnd H
  by_cases c4 : t258 = true
  · subst c4
    replace H := ifT H; have H' := Aside0.mk H; clear H; go_enter Try.func36, Try.ntmps36
    go_wp2_with (first | ((with_reducible refine gate_callee (f := 34) rfl ?_); refine goesK (some 9) Try.func34 #[.slice A0 l0.length c0, .slice A1 l1.length c1] ?_; (with_reducible refine (spec_ZeroIs.calls k _ _ l0 _ _ l1 true _ ?side1 ?side2 ?side3 ?side4 A3.out).mono ?_); (case side1 => exact U HR0.out); (case side2 => exact HC0.out); (case side3 => exact U HR1.out); (case side4 => exact HC1.out); rintro e w' ⟨rfl, ⟨nd, rfl⟩⟩; refine ⟨_, rfl, ?_⟩))
    go_loopg [5, 6] k (fun kq v5 v6 w' => ∃ (x5_1 : Int) (x6_1 : Int), v5 = .int .i64 x5_1 ∧ v6 = .int .i64 x6_1 ∧ Aside0 (spec_ZeroHeight.l0 kq l1 x5_1 x6_1 = some r) ∧ Aside0 (kq ≤ k) ∧ Aside0 (Below w.heap.size w w'))
    case atStart => exact ⟨(0), (0), sR, sR, H', ⟨Nat.le_refl _⟩, ⟨BU⟩⟩
    case round =>
      clear H'; (try clear c1); (try clear c4); obtain ⟨x5_1, x6_1, rfl, rfl, HA, HK1, HB⟩ := hrel; cases gk with
      | zero => exact absurd HA.out (by simp [spec_ZeroHeight.l0])
      | succ k1 =>
        have H := HA.out; clear HA; simp only [spec_ZeroHeight.l0] at H
        by_cases c5 : x6_1 < (l1.length : Int)
        · rw [if_pos c5] at H
          have c5b0 : decide (x6_1 < (l1.length : Int)) = true := decide_eq_true c5; clear c5; obtain ⟨c6, H⟩ := ifN H; have c6b0 : decide (0 ≤ x6_1) = true := decide_eq_true c6; clear c6; obtain ⟨t260, A7, H⟩ := bnd H; obtain ⟨ji8, hji8⟩ : ∃ j_ : Int, (mx x5_1 t260) = j_ := ⟨_, rfl⟩
          replace H : (spec_ZeroHeight.l0 k1 l1 ji8 (wrap64 (x6_1 + 1))) = some r := by first | (rw [hji8] at H; exact H) | (simp only [hji8] at H ⊢; exact H)
          (try rw [hji8] at A7)
          have hji8_ : (if x5_1 < t260 then t260 else x5_1) = ji8 := hji8; have H' := Aside0.mk H; clear H; have p259 : 0 ≤ (x6_1 : Int) := oD; have q259 : x6_1 < (l1.length : Int) := oD; obtain ⟨ad259, e259, hx259_0⟩ := Kd.at_int HR1.out x6_1 p259 q259; cases e259; replace hx259_0 := (HB.out.cell (World.block_lt_of_cell? w _ hx259_0)).trans hx259_0; replace p259 := eq_true p259; replace q259 := eq_true q259
          go_wp2_with (first | ((with_reducible refine gate_callee (f := 62) rfl ?_); refine goesK (some 22) Try.func62 #[.int .i64 (rd l1 x6_1)] ?_; (with_reducible refine (spec_l1Size.calls (rd l1 x6_1) t260 _ A7.out).mono ?_); rintro e w9 ⟨rfl, hb⟩; refine ⟨_, rfl, ?_⟩; replace HB := BS hb; (try clear hb)))
          go_roundg k1
          case measure => have := HK1.out; omega
          case rel => exact ⟨(ji8), (wrap64 (x6_1 + 1)), (by first | rfl | (simp; done) | (simp only [← hji8] <;> (first | rfl | simp)) | (simp [*]; done)), sR, H', ⟨by have := HK1.out; omega⟩, ⟨BU⟩⟩
        rw [if_neg c5] at H; have c5b0 : decide (x6_1 < (l1.length : Int)) = false := decide_eq_false c5; clear c5; obtain rfl := Option.some.inj H
        go_wp2
        go_ret
        exact ⟨eR, BU⟩
  replace c4 := Bool.eq_false_iff.mpr c4; subst c4; replace H := ifF H; obtain rfl := Option.some.inj H; go_enter Try.func36, Try.ntmps36
  go_wp2_with (first | ((with_reducible refine gate_callee (f := 34) rfl ?_); refine goesK (some 9) Try.func34 #[.slice A0 l0.length c0, .slice A1 l1.length c1] ?_; (with_reducible refine (spec_ZeroIs.calls k _ _ l0 _ _ l1 false _ ?side1 ?side2 ?side3 ?side4 A3.out).mono ?_); (case side1 => exact U HR0.out); (case side2 => exact HC0.out); (case side3 => exact U HR1.out); (case side4 => exact HC1.out); rintro e w' ⟨rfl, ⟨nd, rfl⟩⟩; refine ⟨_, rfl, ?_⟩))
  go_ret
  exact ⟨eR, BU⟩

/-! ### spec_ConicPoint: function 10 -/
def spec_ConicPoint.f (k : Nat) (l0 : List Int) (l1 : List Int) : Option (Bool) := if (l0.length : Int) = 3 then ((spec_ZeroIs.f k l0 l1).bind fun t261 => (if t261 = true then ((spec_l6kPlain.f k l1).bind fun t262 => (if t262 = true then ((spec_ZeroHeight.f k l0 l1).bind fun t263 => (some (decide (t263 ≤ 1000)))) else (some false))) else (some false))) else (some false)
theorem spec_ConicPoint.mono : ∀ a0 a1 k, LeO (spec_ConicPoint.f k a0 a1) (spec_ConicPoint.f (k + 1) a0 a1) := by
  intro a0 a1 k
  unfold spec_ConicPoint.f
  repeat' first
      | (with_reducible exact spec_ZeroHeight.mono _ _ _)
      | (with_reducible exact spec_ZeroIs.mono _ _ _)
      | (with_reducible exact spec_l6kPlain.mono _ _)
      | (with_reducible exact LeO.refl _)
      | (with_reducible exact LeO.none _)
      | (with_reducible refine LeO.ite ?_ ?_)
      | (with_reducible refine LeO.bind ?_ (fun _ => ?_))
      | exact spec_ZeroHeight.mono _ _ _
      | exact spec_ZeroIs.mono _ _ _
      | exact spec_l6kPlain.mono _ _
      | exact LeO.none _
      | refine LeO.ite ?_ ?_
      | refine LeO.bind ?_ (fun _ => ?_)
set_option maxHeartbeats 8000000 in
set_option maxRecDepth 100000 in
theorem spec_ConicPoint.calls (k : Nat) (A0 : Option Addr) (c0 : Nat) (l0 : List Int) (A1 : Option Addr) (c1 : Nat) (l1 : List Int) (r : Bool) (w : World) (hr0 : Kd.C (Kd.int .i64) w A0 l0.length l0) (hc0 : l0.length ≤ c0) (hr1 : Kd.C (Kd.int .i64) w A1 l1.length l1) (hc1 : l1.length ≤ c1) (h : spec_ConicPoint.f k l0 l1 = some r) :
    Calls Try.prog 10 #[.slice A0 l0.length c0, .slice A1 l1.length c1] w fun e w' => e = .returned (.bool r) ∧ Below w.heap.size w w' := by
  have HR0 := Aside0.mk hr0; have HC0 := Aside0.mk hc0; clear hr0 hc0; have HR1 := Aside0.mk hr1; have HC1 := Aside0.mk hc1; clear hr1 hc1; have HB := Aside0.mk (Below.refl w.heap.size w); unfold spec_ConicPoint.f at h; have H := h; clear h
  by_cases c3 : (l0.length : Int) = 3
  · rw [if_pos c3] at H
    have c3b0 : ((l0.length : Int) == 3) = true := beq_iff_eq.mpr c3; have c3b1 : ((l0.length : Int) != 3) = false := bne_eq_false_iff_eq.mpr c3; clear c3; obtain ⟨t261, A4, H⟩ := bnd H
    by_cases c5 : t261 = true
    · subst c5
      replace H := ifT H; obtain ⟨t262, A6, H⟩ := bnd H
      by_cases c7 : t262 = true
      · subst c7
        replace H := ifT H; obtain ⟨t263, A8, H⟩ := bnd H; obtain rfl := Option.some.inj H; go_enter Try.func10, Try.ntmps10
        go_wp2_with (first | (go_at_call 34; (with_reducible refine (spec_ZeroIs.calls k _ _ l0 _ _ l1 true _ ?side1 ?side2 ?side3 ?side4 A4.out).mono ?_); (case side1 => exact U HR0.out); (case side2 => exact HC0.out); (case side3 => exact U HR1.out); (case side4 => exact HC1.out); rintro e w' ⟨rfl, ⟨nd, rfl⟩⟩) | (go_at_call 35; (with_reducible refine (spec_l6kPlain.calls k _ _ l1 true _ ?side1 ?side2 A6.out).mono ?_); (case side1 => exact U HR1.out); (case side2 => exact HC1.out); rintro e w9 ⟨rfl, hb⟩; replace HB := BS hb; (try clear hb)) | (go_at_call 36; (with_reducible refine (spec_ZeroHeight.calls k _ _ l0 _ _ l1 t263 _ ?side1 ?side2 ?side3 ?side4 A8.out).mono ?_); (case side1 => exact U (Kd.C_below HR0.out HB.out)); (case side2 => exact HC0.out); (case side3 => exact U (Kd.C_below HR1.out HB.out)); (case side4 => exact HC1.out); rintro e w10 ⟨rfl, hb⟩; replace HB := BS hb; (try clear hb)))
        go_ret
        exact ⟨eR, BU⟩
      replace c7 := Bool.eq_false_iff.mpr c7; subst c7; replace H := ifF H; obtain rfl := Option.some.inj H; go_enter Try.func10, Try.ntmps10
      go_wp2_with (first | (go_at_call 34; (with_reducible refine (spec_ZeroIs.calls k _ _ l0 _ _ l1 true _ ?side1 ?side2 ?side3 ?side4 A4.out).mono ?_); (case side1 => exact U HR0.out); (case side2 => exact HC0.out); (case side3 => exact U HR1.out); (case side4 => exact HC1.out); rintro e w' ⟨rfl, ⟨nd, rfl⟩⟩) | (go_at_call 35; (with_reducible refine (spec_l6kPlain.calls k _ _ l1 false _ ?side1 ?side2 A6.out).mono ?_); (case side1 => exact U HR1.out); (case side2 => exact HC1.out); rintro e w11 ⟨rfl, hb⟩; replace HB := BS hb; (try clear hb)))
      go_ret
      exact ⟨eR, BU⟩
    replace c5 := Bool.eq_false_iff.mpr c5; subst c5; replace H := ifF H; obtain rfl := Option.some.inj H; go_enter Try.func10, Try.ntmps10
    go_wp2_with (first | (go_at_call 34; (with_reducible refine (spec_ZeroIs.calls k _ _ l0 _ _ l1 false _ ?side1 ?side2 ?side3 ?side4 A4.out).mono ?_); (case side1 => exact U HR0.out); (case side2 => exact HC0.out); (case side3 => exact U HR1.out); (case side4 => exact HC1.out); rintro e w' ⟨rfl, ⟨nd, rfl⟩⟩))
    go_ret
    exact ⟨eR, BU⟩
  rw [if_neg c3] at H; have c3b0 : ((l0.length : Int) == 3) = false := beq_eq_false_iff_ne.mpr c3; have c3b1 : ((l0.length : Int) != 3) = true := bne_iff_ne.mpr c3; obtain rfl := Option.some.inj H; go_enter Try.func10, Try.ntmps10
  go_wp2
  go_ret
  exact ⟨eR, BU⟩

end Go.Proofs.Ytpaohkhmhdhibaa.PFnConicBack
