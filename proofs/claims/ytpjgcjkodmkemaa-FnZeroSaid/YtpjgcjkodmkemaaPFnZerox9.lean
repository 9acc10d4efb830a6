-- Written by a program of this session (wip/print2.py): the functions that the law reaches, plain, and the walks.
import Derived.Test.YtpjgcjkodmkemaaPFnZerox0
import Derived.Test.YtpjgcjkodmkemaaPFnZerox1
import Derived.Test.YtpjgcjkodmkemaaPFnZerox8
namespace Go.Proofs.Ytpjgcjkodmkemaa.PFnZero
open Go.RowKit Go.Proofs.YtpjgcjkodmkemaaW.PrintWords Go.Proofs.YtpjgcjkodmkemaaW.PrintLast Go.Proofs.YtpjgcjkodmkemaaW.PrintMore
attribute [local go_sem] max2_int min2_int max_two min_two max_three min_three max_four min_four   -- for this text's walks alone
set_option linter.unusedVariables false
set_option linter.unusedSimpArgs false

/-! ### impl_gcd: function 25 -/
mutual
def impl_gcd.l0 : Nat → Int → List Int → Int → Int → Option (Int)
  | 0, _, _, _, _ => none
  | k + 1, x3, x6, x7, x8 => if x8 < x7 then (if 0 ≤ x8 then (if x8 < (x6.length : Int) then ((impl_size.f (rd x6 x8)).bind fun t377 => (impl_gcd.l1 k x3 t377 x6 x7 x8)) else (none)) else (none)) else (some x3)
def impl_gcd.l1 : Nat → Int → Int → List Int → Int → Int → Option (Int)
  | 0, _, _, _, _, _ => none
  | k + 1, x3, x5, x6, x7, x8 => if x5 = 0 then (impl_gcd.l0 k x3 x6 x7 (wrap64 (x8 + 1))) else (impl_gcd.l1 k x5 (Int.tmod x3 x5) x6 x7 x8)
end
def impl_gcd.f (k : Nat) (l0 : List Int) : Option (Int) := impl_gcd.l0 k 0 l0 (l0.length : Int) 0
theorem impl_gcd.mono_l : ∀ k, (∀ y0 y1 y2 y3, LeO (impl_gcd.l0 k y0 y1 y2 y3) (impl_gcd.l0 (k + 1) y0 y1 y2 y3)) ∧ (∀ y0 y1 y2 y3 y4, LeO (impl_gcd.l1 k y0 y1 y2 y3 y4) (impl_gcd.l1 (k + 1) y0 y1 y2 y3 y4))
  | 0 => ⟨fun _ _ _ _ r h => by simp [impl_gcd.l0] at h, fun _ _ _ _ _ r h => by simp [impl_gcd.l1] at h⟩
  | k + 1 => by
    obtain ⟨ih0, ih1⟩ := impl_gcd.mono_l k
    refine ⟨?_, ?_⟩ <;> intros <;> (first | unfold impl_gcd.l0 | unfold impl_gcd.l1) <;> (repeat' first
      | (with_reducible exact ih0 _ _ _ _)
      | (with_reducible exact ih1 _ _ _ _ _)
      | (with_reducible exact LeO.refl _)
      | (with_reducible exact LeO.none _)
      | (with_reducible refine LeO.ite ?_ ?_)
      | (with_reducible refine LeO.bind ?_ (fun _ => ?_))
      | exact ih0 _ _ _ _
      | exact ih1 _ _ _ _ _
      | exact LeO.none _
      | refine LeO.ite ?_ ?_
      | refine LeO.bind ?_ (fun _ => ?_))
theorem impl_gcd.mono : ∀ a0 k, LeO (impl_gcd.f k a0) (impl_gcd.f (k + 1) a0) := by
  intro a0 k
  obtain ⟨ih0, ih1⟩ := impl_gcd.mono_l k
  unfold impl_gcd.f
  repeat' first
      | (with_reducible exact ih0 _ _ _ _)
      | (with_reducible exact ih1 _ _ _ _ _)
      | (with_reducible exact LeO.refl _)
      | (with_reducible exact LeO.none _)
      | (with_reducible refine LeO.ite ?_ ?_)
      | (with_reducible refine LeO.bind ?_ (fun _ => ?_))
      | exact ih0 _ _ _ _
      | exact ih1 _ _ _ _ _
      | exact LeO.none _
      | refine LeO.ite ?_ ?_
      | refine LeO.bind ?_ (fun _ => ?_)
set_option maxHeartbeats 8000000 in
set_option maxRecDepth 100000 in
theorem impl_gcd.calls (k : Nat) (A0 : Option Addr) (c0 : Nat) (l0 : List Int) (r : Int) (w : World) (hr0 : Kd.C (Kd.int .i64) w A0 l0.length l0) (hc0 : l0.length ≤ c0) (h : impl_gcd.f k l0 = some r) :
    Calls Try.prog 25 #[.slice A0 l0.length c0] w fun e w' => e = .returned (.int .i64 r) ∧ Below w.heap.size w w' := by
  have HR0 := Aside0.mk hr0; have HC0 := Aside0.mk hc0; clear hr0 hc0; have HB := Aside0.mk (Below.refl w.heap.size w); unfold impl_gcd.f at h; have H := h; clear h; have H' := Aside0.mk H; clear H; go_enter Try.func25, Try.ntmps25
  go_wp2
  repeat (go_quiet (fail); try go_wp2)
  go_loopg [3, 8] k (fun kq v3 v8 w' => ∃ (x3_1 : Int) (x8_1 : Int), v3 = .int .i64 x3_1 ∧ v8 = .int .i64 x8_1 ∧ Aside0 (impl_gcd.l0 kq x3_1 l0 (l0.length : Int) x8_1 = some r) ∧ Aside0 (kq ≤ k) ∧ Aside0 (Below w.heap.size w w'))
  case atStart => exact ⟨(0), (0), sR, sR, H', ⟨Nat.le_refl _⟩, ⟨BU⟩⟩
  case round =>
    clear H'; obtain ⟨x3_1, x8_1, rfl, rfl, HA, HK1, HB⟩ := hrel; cases gk with
    | zero => exact absurd HA.out (by simp [impl_gcd.l0])
    | succ k1 =>
      have H := HA.out; clear HA; simp only [impl_gcd.l0] at H
      by_cases c2 : x8_1 < (l0.length : Int)
      · rw [if_pos c2] at H
        have c2b0 : decide (x8_1 < (l0.length : Int)) = true := decide_eq_true c2; clear c2; obtain ⟨c3, H⟩ := ifN H; have c3b0 : decide (0 ≤ x8_1) = true := decide_eq_true c3; clear c3; obtain ⟨c4, H⟩ := ifN H; have c4b0 : decide (x8_1 < (l0.length : Int)) = true := decide_eq_true c4; clear c4; obtain ⟨t377, A5, H⟩ := bnd H; have H' := Aside0.mk H; clear H; have p376 : 0 ≤ (x8_1 : Int) := oD; have q376 : x8_1 < (l0.length : Int) := oD; obtain ⟨ad376, e376, hx376_0⟩ := Kd.at_int HR0.out x8_1 p376 q376; cases e376; replace hx376_0 := (HB.out.cell (World.block_lt_of_cell? w _ hx376_0)).trans hx376_0; replace p376 := eq_true p376; replace q376 := eq_true q376
        go_wp2_with (first | (go_at_call 48; (with_reducible refine (impl_size.calls (rd l0 x8_1) t377 _ A5.out).mono ?_); rintro e w6 ⟨rfl, hb⟩; replace HB := BS hb; (try clear hb)))
        repeat (go_quiet (first | (go_at_call 48; (with_reducible refine (impl_size.calls (rd l0 x8_1) t377 _ A5.out).mono ?_); rintro e w6 ⟨rfl, hb⟩; replace HB := BS hb; (try clear hb))); try go_wp2_with (first | (go_at_call 48; (with_reducible refine (impl_size.calls (rd l0 x8_1) t377 _ A5.out).mono ?_); rintro e w6 ⟨rfl, hb⟩; replace HB := BS hb; (try clear hb))))
        go_loopg [3, 5] k1 (fun kq v3 v5 w' => ∃ (x3_2 : Int) (x5_2 : Int), v3 = .int .i64 x3_2 ∧ v5 = .int .i64 x5_2 ∧ Aside0 (impl_gcd.l1 kq x3_2 x5_2 l0 (l0.length : Int) x8_1 = some r) ∧ Aside0 (kq ≤ k1) ∧ Aside0 (Below w.heap.size w w'))
        case atStart => exact ⟨(x3_1), (t377), sR, sR, H', ⟨Nat.le_refl _⟩, ⟨BU⟩⟩
        case round =>
          clear H'; (try clear c2); (try clear c2b0); (try clear c3); (try clear c3b0); (try clear c4); (try clear c4b0); (try clear hx376_0); (try clear p376); (try clear q376); obtain ⟨x3_2, x5_2, rfl, rfl, HA, HK2, HB⟩ := hrel; cases gk with
          | zero => exact absurd HA.out (by simp [impl_gcd.l1])
          | succ k2 =>
            have H := HA.out; clear HA; simp only [impl_gcd.l1] at H
            by_cases c7 : x5_2 = 0
            · rw [if_pos c7] at H
              have c7b0 : (x5_2 == 0) = true := beq_iff_eq.mpr c7; have c7b1 : (x5_2 != 0) = false := bne_eq_false_iff_eq.mpr c7; clear c7; have H' := Aside0.mk H; clear H
              go_wp2
              repeat (go_quiet (fail); try go_wp2)
              go_roundg k2
              case measure => have := HK1.out; have := HK2.out; omega
              case rel => exact ⟨(x3_2), (wrap64 (x8_1 + 1)), sR, sR, H', ⟨by have := HK1.out; have := HK2.out; omega⟩, ⟨BU⟩⟩
            rw [if_neg c7] at H; have c7b0 : (x5_2 == 0) = false := beq_eq_false_iff_ne.mpr c7; have c7b1 : (x5_2 != 0) = true := bne_iff_ne.mpr c7; have H' := Aside0.mk H; clear H
            go_wp2
            repeat (go_quiet (fail); try go_wp2)
            go_roundg k2
            case measure => have := HK1.out; have := HK2.out; omega
            case rel => exact ⟨(x5_2), (Int.tmod x3_2 x5_2), sR, sR, H', ⟨by have := HK1.out; have := HK2.out; omega⟩, ⟨BU⟩⟩
      rw [if_neg c2] at H; have c2b0 : decide (x8_1 < (l0.length : Int)) = false := decide_eq_false c2; clear c2; obtain rfl := Option.some.inj H
      go_wp2
      repeat (go_quiet (fail); try go_wp2)
      go_ret
      exact ⟨eR, BU⟩

/-! ### impl_pair: function 26 -/
def impl_pair.l0 : Nat → List Int → List Int → Int → List Int → Int → Int → Option (Int)
  | 0, _, _, _, _, _, _ => none
  | k + 1, x1, x2, x7, x10, x11, x12 => if x12 < x11 then (if 0 ≤ x12 then (if x12 < (x10.length : Int) then (if x12 < (x1.length : Int) then (if x12 < (x2.length : Int) then (impl_pair.l0 k x1 x2 (wrap64 (x7 + (wrap64 ((wrap64 ((rd x10 x12) * (rd x1 x12))) * (rd x2 x12))))) x10 x11 (wrap64 (x12 + 1))) else (none)) else (none)) else (none)) else (none)) else (some x7)
def impl_pair.f (k : Nat) (l0 : List Int) (l1 : List Int) (l2 : List Int) : Option (Int) := impl_pair.l0 k l1 l2 0 l0 (l0.length : Int) 0
theorem impl_pair.mono_l : ∀ k, (∀ y0 y1 y2 y3 y4 y5, LeO (impl_pair.l0 k y0 y1 y2 y3 y4 y5) (impl_pair.l0 (k + 1) y0 y1 y2 y3 y4 y5))
  | 0 => fun _ _ _ _ _ _ r h => by simp [impl_pair.l0] at h
  | k + 1 => by
    have ih0 := impl_pair.mono_l k
    · intro y0 y1 y2 y3 y4 y5
      unfold impl_pair.l0
      repeat' first
      | (with_reducible exact ih0 _ _ _ _ _ _)
      | (with_reducible exact LeO.refl _)
      | (with_reducible exact LeO.none _)
      | (with_reducible refine LeO.ite ?_ ?_)
      | (with_reducible refine LeO.bind ?_ (fun _ => ?_))
      | exact ih0 _ _ _ _ _ _
      | exact LeO.none _
      | refine LeO.ite ?_ ?_
      | refine LeO.bind ?_ (fun _ => ?_)
theorem impl_pair.mono : ∀ a0 a1 a2 k, LeO (impl_pair.f k a0 a1 a2) (impl_pair.f (k + 1) a0 a1 a2) := by
  intro a0 a1 a2 k
  have ih0 := impl_pair.mono_l k
  unfold impl_pair.f
  repeat' first
      | (with_reducible exact ih0 _ _ _ _ _ _)
      | (with_reducible exact LeO.refl _)
      | (with_reducible exact LeO.none _)
      | (with_reducible refine LeO.ite ?_ ?_)
      | (with_reducible refine LeO.bind ?_ (fun _ => ?_))
      | exact ih0 _ _ _ _ _ _
      | exact LeO.none _
      | refine LeO.ite ?_ ?_
      | refine LeO.bind ?_ (fun _ => ?_)
set_option maxHeartbeats 8000000 in
set_option maxRecDepth 100000 in
theorem impl_pair.calls (k : Nat) (A0 : Option Addr) (c0 : Nat) (l0 : List Int) (A1 : Option Addr) (c1 : Nat) (l1 : List Int) (A2 : Option Addr) (c2 : Nat) (l2 : List Int) (r : Int) (w : World) (hr0 : Kd.C (Kd.int .i64) w A0 l0.length l0) (hc0 : l0.length ≤ c0) (hr1 : Kd.C (Kd.int .i64) w A1 l1.length l1) (hc1 : l1.length ≤ c1) (hr2 : Kd.C (Kd.int .i64) w A2 l2.length l2) (hc2 : l2.length ≤ c2) (h : impl_pair.f k l0 l1 l2 = some r) :
    Calls Try.prog 26 #[.slice A0 l0.length c0, .slice A1 l1.length c1, .slice A2 l2.length c2] w fun e w' => e = .returned (.int .i64 r) ∧ Drawn0 w w' := by
  have HR0 := Aside0.mk hr0; have HC0 := Aside0.mk hc0; clear hr0 hc0; have HR1 := Aside0.mk hr1; have HC1 := Aside0.mk hc1; clear hr1 hc1; have HR2 := Aside0.mk hr2; have HC2 := Aside0.mk hc2; clear hr2 hc2; unfold impl_pair.f at h; have H := h; clear h; have H' := Aside0.mk H; clear H; go_enter Try.func26, Try.ntmps26
  go_wp2
  repeat (go_quiet (fail); try go_wp2)
  go_loopg [7, 12] k (fun kq v7 v12 w' => ∃ (x7_1 : Int) (x12_1 : Int), v7 = .int .i64 x7_1 ∧ v12 = .int .i64 x12_1 ∧ Aside0 (impl_pair.l0 kq l1 l2 x7_1 l0 (l0.length : Int) x12_1 = some r) ∧ Aside0 (kq ≤ k) ∧ Drawn0 w w')
  case atStart => exact ⟨(0), (0), sR, sR, H', ⟨Nat.le_refl _⟩, by repeat (first | exact Drawn0.refl _ | apply Drawn0.step)⟩
  case round =>
    clear H'; obtain ⟨x7_1, x12_1, rfl, rfl, HA, HK1, ⟨m1, rfl⟩⟩ := hrel; cases gk with
    | zero => exact absurd HA.out (by simp [impl_pair.l0])
    | succ k1 =>
      have H := HA.out; clear HA; simp only [impl_pair.l0] at H
      by_cases c4 : x12_1 < (l0.length : Int)
      · rw [if_pos c4] at H
        have c4b0 : decide (x12_1 < (l0.length : Int)) = true := decide_eq_true c4; clear c4; obtain ⟨c5, H⟩ := ifN H; have c5b0 : decide (0 ≤ x12_1) = true := decide_eq_true c5; clear c5; obtain ⟨c6, H⟩ := ifN H; have c6b0 : decide (x12_1 < (l0.length : Int)) = true := decide_eq_true c6; clear c6; obtain ⟨c7, H⟩ := ifN H; have c7b0 : decide (x12_1 < (l1.length : Int)) = true := decide_eq_true c7; clear c7; obtain ⟨c8, H⟩ := ifN H; have c8b0 : decide (x12_1 < (l2.length : Int)) = true := decide_eq_true c8; clear c8; have H' := Aside0.mk H; clear H; have p378 : 0 ≤ (x12_1 : Int) := oD; have q378 : x12_1 < (l0.length : Int) := oD; obtain ⟨ad378, e378, hx378_0⟩ := Kd.at_int HR0.out x12_1 p378 q378; cases e378; replace p378 := eq_true p378; replace q378 := eq_true q378; have p379 : 0 ≤ (x12_1 : Int) := oD; have q379 : x12_1 < (l1.length : Int) := oD; obtain ⟨ad379, e379, hx379_0⟩ := Kd.at_int HR1.out x12_1 p379 q379; cases e379; replace p379 := eq_true p379; replace q379 := eq_true q379; have p380 : 0 ≤ (x12_1 : Int) := oD; have q380 : x12_1 < (l2.length : Int) := oD; obtain ⟨ad380, e380, hx380_0⟩ := Kd.at_int HR2.out x12_1 p380 q380; cases e380; replace p380 := eq_true p380; replace q380 := eq_true q380
        go_wp2
        repeat (go_quiet (fail); try go_wp2)
        go_roundg k1
        case measure => have := HK1.out; omega
        case rel => exact ⟨(wrap64 (x7_1 + (wrap64 ((wrap64 ((rd l0 x12_1) * (rd l1 x12_1))) * (rd l2 x12_1))))), (wrap64 (x12_1 + 1)), sR, sR, H', ⟨by have := HK1.out; omega⟩, by repeat (first | exact Drawn0.refl _ | apply Drawn0.step)⟩
      rw [if_neg c4] at H; have c4b0 : decide (x12_1 < (l0.length : Int)) = false := decide_eq_false c4; clear c4; obtain rfl := Option.some.inj H
      go_wp2
      repeat (go_quiet (fail); try go_wp2)
      go_ret
      exact ⟨by first | rfl | (simp; done) | (simp [*]; done), by repeat (first | exact Drawn0.refl _ | apply Drawn0.step)⟩

/-! ### impl_ZeroIs: function 7 -/
def impl_ZeroIs.j0 : Nat → List Int → List Int → Bool → Option (Bool)
  | 0, _, _, _ => none
  | k + 1, x0, x1, x13 => if x13 = true then (some false) else ((impl_gcd.f k x1).bind fun t383 => (if t383 = 0 then (some false) else ((impl_pair.f k x0 x1 x1).bind fun t384 => (some (t384 == 0)))))
def impl_ZeroIs.f (k : Nat) (l0 : List Int) (l1 : List Int) : Option (Bool) := (impl_FormValid.f k l0).bind fun t381 => (if t381 = true then ((impl_vectorOk.f k l0 l1 1000000).bind fun t382 => (impl_ZeroIs.j0 k l0 l1 (!t382))) else (impl_ZeroIs.j0 k l0 l1 true))
theorem impl_ZeroIs.mono_l : ∀ k, (∀ y0 y1 y2, LeO (impl_ZeroIs.j0 k y0 y1 y2) (impl_ZeroIs.j0 (k + 1) y0 y1 y2))
  | 0 => fun _ _ _ r h => by simp [impl_ZeroIs.j0] at h
  | k + 1 => by
    have ih0 := impl_ZeroIs.mono_l k
    · intro y0 y1 y2
      unfold impl_ZeroIs.j0
      repeat' first
      | (with_reducible exact ih0 _ _ _)
      | (with_reducible exact impl_FormValid.mono _ _)
      | (with_reducible exact impl_gcd.mono _ _)
      | (with_reducible exact impl_pair.mono _ _ _ _)
      | (with_reducible exact impl_vectorOk.mono _ _ _ _)
      | (with_reducible exact LeO.refl _)
      | (with_reducible exact LeO.none _)
      | (with_reducible refine LeO.ite ?_ ?_)
      | (with_reducible refine LeO.bind ?_ (fun _ => ?_))
      | exact ih0 _ _ _
      | exact impl_FormValid.mono _ _
      | exact impl_gcd.mono _ _
      | exact impl_pair.mono _ _ _ _
      | exact impl_vectorOk.mono _ _ _ _
      | exact LeO.none _
      | refine LeO.ite ?_ ?_
      | refine LeO.bind ?_ (fun _ => ?_)
theorem impl_ZeroIs.mono : ∀ a0 a1 k, LeO (impl_ZeroIs.f k a0 a1) (impl_ZeroIs.f (k + 1) a0 a1) := by
  intro a0 a1 k
  have ih0 := impl_ZeroIs.mono_l k
  unfold impl_ZeroIs.f
  repeat' first
      | (with_reducible exact ih0 _ _ _)
      | (with_reducible exact impl_FormValid.mono _ _)
      | (with_reducible exact impl_gcd.mono _ _)
      | (with_reducible exact impl_pair.mono _ _ _ _)
      | (with_reducible exact impl_vectorOk.mono _ _ _ _)
      | (with_reducible exact LeO.refl _)
      | (with_reducible exact LeO.none _)
      | (with_reducible refine LeO.ite ?_ ?_)
      | (with_reducible refine LeO.bind ?_ (fun _ => ?_))
      | exact ih0 _ _ _
      | exact impl_FormValid.mono _ _
      | exact impl_gcd.mono _ _
      | exact impl_pair.mono _ _ _ _
      | exact impl_vectorOk.mono _ _ _ _
      | exact LeO.none _
      | refine LeO.ite ?_ ?_
      | refine LeO.bind ?_ (fun _ => ?_)
set_option maxHeartbeats 8000000 in
set_option maxRecDepth 100000 in
theorem impl_ZeroIs.calls (k : Nat) (A0 : Option Addr) (c0 : Nat) (l0 : List Int) (A1 : Option Addr) (c1 : Nat) (l1 : List Int) (r : Bool) (w : World) (hr0 : Kd.C (Kd.int .i64) w A0 l0.length l0) (hc0 : l0.length ≤ c0) (hr1 : Kd.C (Kd.int .i64) w A1 l1.length l1) (hc1 : l1.length ≤ c1) (h : impl_ZeroIs.f k l0 l1 = some r) :
    Calls Try.prog 7 #[.slice A0 l0.length c0, .slice A1 l1.length c1] w fun e w' => e = .returned (.bool r) ∧ Below w.heap.size w w' := by
  have HR0 := Aside0.mk hr0; have HC0 := Aside0.mk hc0; clear hr0 hc0; have HR1 := Aside0.mk hr1; have HC1 := Aside0.mk hc1; clear hr1 hc1; have HB := Aside0.mk (Below.refl w.heap.size w); unfold impl_ZeroIs.f at h; have H := h; clear h; have HC3 := Aside0.mk H; clear H; go_enter Try.func7, Try.ntmps7
  go_upto_region 1 with (fail)
  go_cut [13] (fun v13 wc => ∃ (kq : Nat) (x13_2 : Bool), v13 = .bool x13_2 ∧ Aside0 (impl_ZeroIs.j0 kq l0 l1 x13_2 = some r) ∧ Aside0 (kq ≤ k) ∧ Aside0 (Below w.heap.size w wc))
  case first =>
    have H := HC3.out; clear HC3; obtain ⟨t381, A4, H⟩ := bnd H
    by_cases c5 : t381 = true
    · subst c5
      replace H := ifT H; obtain ⟨t382, A6, H⟩ := bnd H; have H' := Aside0.mk H; clear H
      go_wp2_with (first | ((with_reducible refine gate_callee (f := 20) rfl ?_); refine goesK (some 6) Try.func20 #[.slice A0 l0.length c0] ?_; (with_reducible refine (impl_FormValid.calls k _ _ l0 true _ ?side1 ?side2 A4.out).mono ?_); (case side1 => exact U (Kd.C_below HR0.out HB.out)); (case side2 => exact HC0.out); rintro e w7 ⟨rfl, hb⟩; refine ⟨_, rfl, ?_⟩; replace HB := BS hb; (try clear hb)) | (go_at_call 24; (with_reducible refine (impl_vectorOk.calls k _ _ l0 _ _ l1 1000000 t382 _ ?side1 ?side2 ?side3 ?side4 A6.out).mono ?_); (case side1 => exact U (Kd.C_below HR0.out HB.out)); (case side2 => exact HC0.out); (case side3 => exact U (Kd.C_below HR1.out HB.out)); (case side4 => exact HC1.out); rintro e w' ⟨rfl, ⟨nd, rfl⟩⟩))
      go_meet
      case rel => exact ⟨_, (!t382), sR, H', ⟨oR⟩, ⟨BU⟩⟩
    replace c5 := Bool.eq_false_iff.mpr c5; subst c5; replace H := ifF H; have H' := Aside0.mk H; clear H
    go_wp2_with (first | ((with_reducible refine gate_callee (f := 20) rfl ?_); refine goesK (some 6) Try.func20 #[.slice A0 l0.length c0] ?_; (with_reducible refine (impl_FormValid.calls k _ _ l0 false _ ?side1 ?side2 A4.out).mono ?_); (case side1 => exact U (Kd.C_below HR0.out HB.out)); (case side2 => exact HC0.out); rintro e w8 ⟨rfl, hb⟩; refine ⟨_, rfl, ?_⟩; replace HB := BS hb; (try clear hb)))
    go_meet
    case rel => exact ⟨_, (true), sR, H', ⟨oR⟩, ⟨BU⟩⟩
  case rest =>
    clear HC3; obtain ⟨kq, x13_2, rfl, HA, HJ2, HB⟩ := hcut; cases kq with
    | zero => exact absurd HA.out (by simp [impl_ZeroIs.j0])
    | succ kj2 =>
      have H := HA.out; clear HA; simp only [impl_ZeroIs.j0] at H
      by_cases c9 : x13_2 = true
      · subst c9
        replace H := ifT H; obtain rfl := Option.some.inj H
        go_wp2
        go_ret
        exact ⟨eR, BU⟩
      replace c9 := Bool.eq_false_iff.mpr c9; subst c9; replace H := ifF H; obtain ⟨t383, A10, H⟩ := bnd H
      by_cases c11 : t383 = 0
      · rw [if_pos c11] at H
        have c11b0 : (t383 == 0) = true := beq_iff_eq.mpr c11; have c11b1 : (t383 != 0) = false := bne_eq_false_iff_eq.mpr c11; clear c11; obtain rfl := Option.some.inj H
        go_wp2_with (first | ((with_reducible refine gate_callee (f := 25) rfl ?_); refine goesK (some 15) Try.func25 #[.slice A1 l1.length c1] ?_; (with_reducible refine (impl_gcd.calls kj2 _ _ l1 t383 _ ?side1 ?side2 A10.out).mono ?_); (case side1 => exact U (Kd.C_below HR1.out HB.out)); (case side2 => exact HC1.out); rintro e w12 ⟨rfl, hb⟩; refine ⟨_, rfl, ?_⟩; replace HB := BS hb; (try clear hb)))
        go_ret
        exact ⟨eR, BU⟩
      rw [if_neg c11] at H; have c11b0 : (t383 == 0) = false := beq_eq_false_iff_ne.mpr c11; have c11b1 : (t383 != 0) = true := bne_iff_ne.mpr c11; obtain ⟨t384, A13, H⟩ := bnd H; obtain rfl := Option.some.inj H
      go_wp2_with (first | ((with_reducible refine gate_callee (f := 25) rfl ?_); refine goesK (some 15) Try.func25 #[.slice A1 l1.length c1] ?_; (with_reducible refine (impl_gcd.calls kj2 _ _ l1 t383 _ ?side1 ?side2 A10.out).mono ?_); (case side1 => exact U (Kd.C_below HR1.out HB.out)); (case side2 => exact HC1.out); rintro e w14 ⟨rfl, hb⟩; refine ⟨_, rfl, ?_⟩; replace HB := BS hb; (try clear hb)) | (go_at_call 26; (with_reducible refine (impl_pair.calls kj2 _ _ l0 _ _ l1 _ _ l1 t384 _ ?side1 ?side2 ?side3 ?side4 ?side5 ?side6 A13.out).mono ?_); (case side1 => exact U (Kd.C_below HR0.out HB.out)); (case side2 => exact HC0.out); (case side3 => exact U (Kd.C_below HR1.out HB.out)); (case side4 => exact HC1.out); (case side5 => exact U (Kd.C_below HR1.out HB.out)); (case side6 => exact HC1.out); rintro e w' ⟨rfl, ⟨nd, rfl⟩⟩))
      go_ret
      exact ⟨eR, BU⟩

/-! ### spec_l4Vector: function 27 -/
def spec_l4Vector.l0 : Nat → List Int → List Int → Int → Int → Option (Bool)
  | 0, _, _, _, _ => none
  | k + 1, x0, x1, x2, x7 => if x7 < (x1.length : Int) then (if 0 ≤ x7 then ((spec_l6In.f (rd x1 x7) (wrap64 (-x2)) x2).bind fun t386 => (if t386 = true then (spec_l4Vector.l0 k x0 x1 x2 (wrap64 (x7 + 1))) else (some false))) else (none)) else ((spec_FormValid.f k x0).bind fun t387 => (if t387 = true then (some ((x1.length : Int) == (x0.length : Int))) else (some false)))
def spec_l4Vector.f (k : Nat) (l0 : List Int) (l1 : List Int) (a2 : Int) : Option (Bool) := spec_l4Vector.l0 k l0 l1 a2 0
theorem spec_l4Vector.mono_l : ∀ k, (∀ y0 y1 y2 y3, LeO (spec_l4Vector.l0 k y0 y1 y2 y3) (spec_l4Vector.l0 (k + 1) y0 y1 y2 y3))
  | 0 => fun _ _ _ _ r h => by simp [spec_l4Vector.l0] at h
  | k + 1 => by
    have ih0 := spec_l4Vector.mono_l k
    · intro y0 y1 y2 y3
      unfold spec_l4Vector.l0
      repeat' first
      | (with_reducible exact ih0 _ _ _ _)
      | (with_reducible exact spec_FormValid.mono _ _)
      | (with_reducible exact LeO.refl _)
      | (with_reducible exact LeO.none _)
      | (with_reducible refine LeO.ite ?_ ?_)
      | (with_reducible refine LeO.bind ?_ (fun _ => ?_))
      | exact ih0 _ _ _ _
      | exact spec_FormValid.mono _ _
      | exact LeO.none _
      | refine LeO.ite ?_ ?_
      | refine LeO.bind ?_ (fun _ => ?_)
theorem spec_l4Vector.mono : ∀ a0 a1 a2 k, LeO (spec_l4Vector.f k a0 a1 a2) (spec_l4Vector.f (k + 1) a0 a1 a2) := by
  intro a0 a1 a2 k
  have ih0 := spec_l4Vector.mono_l k
  unfold spec_l4Vector.f
  repeat' first
      | (with_reducible exact ih0 _ _ _ _)
      | (with_reducible exact spec_FormValid.mono _ _)
      | (with_reducible exact LeO.refl _)
      | (with_reducible exact LeO.none _)
      | (with_reducible refine LeO.ite ?_ ?_)
      | (with_reducible refine LeO.bind ?_ (fun _ => ?_))
      | exact ih0 _ _ _ _
      | exact spec_FormValid.mono _ _
      | exact LeO.none _
      | refine LeO.ite ?_ ?_
      | refine LeO.bind ?_ (fun _ => ?_)
set_option maxHeartbeats 8000000 in
set_option maxRecDepth 100000 in
theorem spec_l4Vector.calls (k : Nat) (A0 : Option Addr) (c0 : Nat) (l0 : List Int) (A1 : Option Addr) (c1 : Nat) (l1 : List Int) (a2 : Int) (r : Bool) (w : World) (hr0 : Kd.C (Kd.int .i64) w A0 l0.length l0) (hc0 : l0.length ≤ c0) (hr1 : Kd.C (Kd.int .i64) w A1 l1.length l1) (hc1 : l1.length ≤ c1) (h : spec_l4Vector.f k l0 l1 a2 = some r) :
    Calls Try.prog 27 #[.slice A0 l0.length c0, .slice A1 l1.length c1, .int .i64 a2] w fun e w' => e = .returned (.bool r) ∧ Drawn0 w w' := by
  have HR0 := Aside0.mk hr0; have HC0 := Aside0.mk hc0; clear hr0 hc0; have HR1 := Aside0.mk hr1; have HC1 := Aside0.mk hc1; clear hr1 hc1; unfold spec_l4Vector.f at h; have H := h; clear h; have H' := Aside0.mk H; clear H; go_enter Try.func27, Try.ntmps27
  go_wp2
  go_loopg [7] k (fun kq v7 w' => ∃ (x7_1 : Int), v7 = .int .i64 x7_1 ∧ Aside0 (spec_l4Vector.l0 kq l0 l1 a2 x7_1 = some r) ∧ Aside0 (kq ≤ k) ∧ Drawn0 w w')
  case atStart => exact ⟨(0), sR, H', ⟨Nat.le_refl _⟩, by repeat (first | exact Drawn0.refl _ | apply Drawn0.step)⟩
  case round =>
    clear H'; obtain ⟨x7_1, rfl, HA, HK1, ⟨m1, rfl⟩⟩ := hrel; cases gk with
    | zero => exact absurd HA.out (by simp [spec_l4Vector.l0])
    | succ k1 =>
      have H := HA.out; clear HA; simp only [spec_l4Vector.l0] at H
      by_cases c4 : x7_1 < (l1.length : Int)
      · rw [if_pos c4] at H
        have c4b0 : decide (x7_1 < (l1.length : Int)) = true := decide_eq_true c4; clear c4; obtain ⟨c5, H⟩ := ifN H; have c5b0 : decide (0 ≤ x7_1) = true := decide_eq_true c5; clear c5; obtain ⟨t386, A6, H⟩ := bnd H
        by_cases c7 : t386 = true
        · subst c7
          replace H := ifT H; have H' := Aside0.mk H; clear H; have p385 : 0 ≤ (x7_1 : Int) := oD; have q385 : x7_1 < (l1.length : Int) := oD; obtain ⟨ad385, e385, hx385_0⟩ := Kd.at_int HR1.out x7_1 p385 q385; cases e385; replace p385 := eq_true p385; replace q385 := eq_true q385
          go_wp2_with (first | ((with_reducible refine gate_callee (f := 42) rfl ?_); refine goesK (some 21) Try.func42 #[.int .i64 (rd l1 x7_1), .int .i64 (wrap64 (-a2)), .int .i64 a2] ?_; (with_reducible refine (spec_l6In.calls (rd l1 x7_1) (wrap64 (-a2)) a2 true _ A6.out).mono ?_); rintro e w' ⟨rfl, ⟨nd, rfl⟩⟩; refine ⟨_, rfl, ?_⟩))
          go_roundg k1
          case measure => have := HK1.out; omega
          case rel => exact ⟨(wrap64 (x7_1 + 1)), sR, H', ⟨by have := HK1.out; omega⟩, by repeat (first | exact Drawn0.refl _ | apply Drawn0.step)⟩
        replace c7 := Bool.eq_false_iff.mpr c7; subst c7; replace H := ifF H; obtain rfl := Option.some.inj H; have p385 : 0 ≤ (x7_1 : Int) := oD; have q385 : x7_1 < (l1.length : Int) := oD; obtain ⟨ad385, e385, hx385_0⟩ := Kd.at_int HR1.out x7_1 p385 q385; cases e385; replace p385 := eq_true p385; replace q385 := eq_true q385
        go_wp2_with (first | ((with_reducible refine gate_callee (f := 42) rfl ?_); refine goesK (some 21) Try.func42 #[.int .i64 (rd l1 x7_1), .int .i64 (wrap64 (-a2)), .int .i64 a2] ?_; (with_reducible refine (spec_l6In.calls (rd l1 x7_1) (wrap64 (-a2)) a2 false _ A6.out).mono ?_); rintro e w' ⟨rfl, ⟨nd, rfl⟩⟩; refine ⟨_, rfl, ?_⟩))
        go_ret
        exact ⟨by first | rfl | (simp; done) | (simp [*]; done), by repeat (first | exact Drawn0.refl _ | apply Drawn0.step)⟩
      rw [if_neg c4] at H; have c4b0 : decide (x7_1 < (l1.length : Int)) = false := decide_eq_false c4; clear c4; obtain ⟨t387, A8, H⟩ := bnd H
      by_cases c9 : t387 = true
      · subst c9
        replace H := ifT H; obtain rfl := Option.some.inj H
        go_wp2_with (first | ((with_reducible refine gate_callee (f := 41) rfl ?_); refine goesK (some 24) Try.func41 #[.slice A0 l0.length c0] ?_; (with_reducible refine (spec_FormValid.calls k1 _ _ l0 true _ ?side1 ?side2 A8.out).mono ?_); (case side1 => exact U HR0.out); (case side2 => exact HC0.out); rintro e w' ⟨rfl, ⟨nd, rfl⟩⟩; refine ⟨_, rfl, ?_⟩))
        go_ret
        exact ⟨by first | rfl | (simp; done) | (simp [*]; done), by repeat (first | exact Drawn0.refl _ | apply Drawn0.step)⟩
      replace c9 := Bool.eq_false_iff.mpr c9; subst c9; replace H := ifF H; obtain rfl := Option.some.inj H
      go_wp2_with (first | ((with_reducible refine gate_callee (f := 41) rfl ?_); refine goesK (some 24) Try.func41 #[.slice A0 l0.length c0] ?_; (with_reducible refine (spec_FormValid.calls k1 _ _ l0 false _ ?side1 ?side2 A8.out).mono ?_); (case side1 => exact U HR0.out); (case side2 => exact HC0.out); rintro e w' ⟨rfl, ⟨nd, rfl⟩⟩; refine ⟨_, rfl, ?_⟩))
      go_ret
      exact ⟨by first | rfl | (simp; done) | (simp [*]; done), by repeat (first | exact Drawn0.refl _ | apply Drawn0.step)⟩

/-! ### spec_l5Some: function 28 -/
def spec_l5Some.l0 : Nat → List Int → Int → Option (Bool)
  | 0, _, _ => none
  | k + 1, x0, x3 => if x3 < (x0.length : Int) then (if 0 ≤ x3 then (if (rd x0 x3) = 0 then (spec_l5Some.l0 k x0 (wrap64 (x3 + 1))) else (some true)) else (none)) else (some false)
def spec_l5Some.f (k : Nat) (l0 : List Int) : Option (Bool) := spec_l5Some.l0 k l0 0
theorem spec_l5Some.mono_l : ∀ k, (∀ y0 y1, LeO (spec_l5Some.l0 k y0 y1) (spec_l5Some.l0 (k + 1) y0 y1))
  | 0 => fun _ _ r h => by simp [spec_l5Some.l0] at h
  | k + 1 => by
    have ih0 := spec_l5Some.mono_l k
    · intro y0 y1
      unfold spec_l5Some.l0
      repeat' first
      | (with_reducible exact ih0 _ _)
      | (with_reducible exact LeO.refl _)
      | (with_reducible exact LeO.none _)
      | (with_reducible refine LeO.ite ?_ ?_)
      | (with_reducible refine LeO.bind ?_ (fun _ => ?_))
      | exact ih0 _ _
      | exact LeO.none _
      | refine LeO.ite ?_ ?_
      | refine LeO.bind ?_ (fun _ => ?_)
theorem spec_l5Some.mono : ∀ a0 k, LeO (spec_l5Some.f k a0) (spec_l5Some.f (k + 1) a0) := by
  intro a0 k
  have ih0 := spec_l5Some.mono_l k
  unfold spec_l5Some.f
  repeat' first
      | (with_reducible exact ih0 _ _)
      | (with_reducible exact LeO.refl _)
      | (with_reducible exact LeO.none _)
      | (with_reducible refine LeO.ite ?_ ?_)
      | (with_reducible refine LeO.bind ?_ (fun _ => ?_))
      | exact ih0 _ _
      | exact LeO.none _
      | refine LeO.ite ?_ ?_
      | refine LeO.bind ?_ (fun _ => ?_)
set_option maxHeartbeats 8000000 in
set_option maxRecDepth 100000 in
theorem spec_l5Some.calls (k : Nat) (A0 : Option Addr) (c0 : Nat) (l0 : List Int) (r : Bool) (w : World) (hr0 : Kd.C (Kd.int .i64) w A0 l0.length l0) (hc0 : l0.length ≤ c0) (h : spec_l5Some.f k l0 = some r) :
    Calls Try.prog 28 #[.slice A0 l0.length c0] w fun e w' => e = .returned (.bool r) ∧ Drawn0 w w' := by
  have HR0 := Aside0.mk hr0; have HC0 := Aside0.mk hc0; clear hr0 hc0; unfold spec_l5Some.f at h; have H := h; clear h; have H' := Aside0.mk H; clear H; go_enter Try.func28, Try.ntmps28
  go_wp2
  go_loopg [3] k (fun kq v3 w' => ∃ (x3_1 : Int), v3 = .int .i64 x3_1 ∧ Aside0 (spec_l5Some.l0 kq l0 x3_1 = some r) ∧ Aside0 (kq ≤ k) ∧ Drawn0 w w')
  case atStart => exact ⟨(0), sR, H', ⟨Nat.le_refl _⟩, by repeat (first | exact Drawn0.refl _ | apply Drawn0.step)⟩
  case round =>
    clear H'; obtain ⟨x3_1, rfl, HA, HK1, ⟨m1, rfl⟩⟩ := hrel; cases gk with
    | zero => exact absurd HA.out (by simp [spec_l5Some.l0])
    | succ k1 =>
      have H := HA.out; clear HA; simp only [spec_l5Some.l0] at H
      by_cases c2 : x3_1 < (l0.length : Int)
      · rw [if_pos c2] at H
        have c2b0 : decide (x3_1 < (l0.length : Int)) = true := decide_eq_true c2; clear c2; obtain ⟨c3, H⟩ := ifN H; have c3b0 : decide (0 ≤ x3_1) = true := decide_eq_true c3; clear c3
        by_cases c4 : (rd l0 x3_1) = 0
        · rw [if_pos c4] at H
          have c4b0 : ((rd l0 x3_1) == 0) = true := beq_iff_eq.mpr c4; have c4b1 : ((rd l0 x3_1) != 0) = false := bne_eq_false_iff_eq.mpr c4; clear c4; have H' := Aside0.mk H; clear H; have p388 : 0 ≤ (x3_1 : Int) := oD; have q388 : x3_1 < (l0.length : Int) := oD; obtain ⟨ad388, e388, hx388_0⟩ := Kd.at_int HR0.out x3_1 p388 q388; cases e388; replace p388 := eq_true p388; replace q388 := eq_true q388
          go_wp2
          go_roundg k1
          case measure => have := HK1.out; omega
          case rel => exact ⟨(wrap64 (x3_1 + 1)), sR, H', ⟨by have := HK1.out; omega⟩, by repeat (first | exact Drawn0.refl _ | apply Drawn0.step)⟩
        rw [if_neg c4] at H; have c4b0 : ((rd l0 x3_1) == 0) = false := beq_eq_false_iff_ne.mpr c4; have c4b1 : ((rd l0 x3_1) != 0) = true := bne_iff_ne.mpr c4; obtain rfl := Option.some.inj H; have p388 : 0 ≤ (x3_1 : Int) := oD; have q388 : x3_1 < (l0.length : Int) := oD; obtain ⟨ad388, e388, hx388_0⟩ := Kd.at_int HR0.out x3_1 p388 q388; cases e388; replace p388 := eq_true p388; replace q388 := eq_true q388
        go_wp2
        go_ret
        exact ⟨by first | rfl | (simp; done) | (simp [*]; done), by repeat (first | exact Drawn0.refl _ | apply Drawn0.step)⟩
      rw [if_neg c2] at H; have c2b0 : decide (x3_1 < (l0.length : Int)) = false := decide_eq_false c2; clear c2; obtain rfl := Option.some.inj H
      go_wp2
      go_ret
      exact ⟨by first | rfl | (simp; done) | (simp [*]; done), by repeat (first | exact Drawn0.refl _ | apply Drawn0.step)⟩

/-! ### spec_l4Value: function 29 -/
def spec_l4Value.l0 : Nat → List Int → List Int → Int → Int → Option (Int)
  | 0, _, _, _, _ => none
  | k + 1, x0, x1, x5, x6 => if x6 < (x0.length : Int) then (if 0 ≤ x6 then (if x6 < (x1.length : Int) then (spec_l4Value.l0 k x0 x1 (wrap64 (x5 + (wrap64 ((wrap64 ((rd x0 x6) * (rd x1 x6))) * (rd x1 x6))))) (wrap64 (x6 + 1))) else (none)) else (none)) else (some x5)
def spec_l4Value.f (k : Nat) (l0 : List Int) (l1 : List Int) : Option (Int) := spec_l4Value.l0 k l0 l1 0 0
theorem spec_l4Value.mono_l : ∀ k, (∀ y0 y1 y2 y3, LeO (spec_l4Value.l0 k y0 y1 y2 y3) (spec_l4Value.l0 (k + 1) y0 y1 y2 y3))
  | 0 => fun _ _ _ _ r h => by simp [spec_l4Value.l0] at h
  | k + 1 => by
    have ih0 := spec_l4Value.mono_l k
    · intro y0 y1 y2 y3
      unfold spec_l4Value.l0
      repeat' first
      | (with_reducible exact ih0 _ _ _ _)
      | (with_reducible exact LeO.refl _)
      | (with_reducible exact LeO.none _)
      | (with_reducible refine LeO.ite ?_ ?_)
      | (with_reducible refine LeO.bind ?_ (fun _ => ?_))
      | exact ih0 _ _ _ _
      | exact LeO.none _
      | refine LeO.ite ?_ ?_
      | refine LeO.bind ?_ (fun _ => ?_)
theorem spec_l4Value.mono : ∀ a0 a1 k, LeO (spec_l4Value.f k a0 a1) (spec_l4Value.f (k + 1) a0 a1) := by
  intro a0 a1 k
  have ih0 := spec_l4Value.mono_l k
  unfold spec_l4Value.f
  repeat' first
      | (with_reducible exact ih0 _ _ _ _)
      | (with_reducible exact LeO.refl _)
      | (with_reducible exact LeO.none _)
      | (with_reducible refine LeO.ite ?_ ?_)
      | (with_reducible refine LeO.bind ?_ (fun _ => ?_))
      | exact ih0 _ _ _ _
      | exact LeO.none _
      | refine LeO.ite ?_ ?_
      | refine LeO.bind ?_ (fun _ => ?_)
set_option maxHeartbeats 8000000 in
set_option maxRecDepth 100000 in
theorem spec_l4Value.calls (k : Nat) (A0 : Option Addr) (c0 : Nat) (l0 : List Int) (A1 : Option Addr) (c1 : Nat) (l1 : List Int) (r : Int) (w : World) (hr0 : Kd.C (Kd.int .i64) w A0 l0.length l0) (hc0 : l0.length ≤ c0) (hr1 : Kd.C (Kd.int .i64) w A1 l1.length l1) (hc1 : l1.length ≤ c1) (h : spec_l4Value.f k l0 l1 = some r) :
    Calls Try.prog 29 #[.slice A0 l0.length c0, .slice A1 l1.length c1] w fun e w' => e = .returned (.int .i64 r) ∧ Drawn0 w w' := by
  have HR0 := Aside0.mk hr0; have HC0 := Aside0.mk hc0; clear hr0 hc0; have HR1 := Aside0.mk hr1; have HC1 := Aside0.mk hc1; clear hr1 hc1; unfold spec_l4Value.f at h; have H := h; clear h; have H' := Aside0.mk H; clear H; go_enter Try.func29, Try.ntmps29
  go_wp2
  repeat (go_quiet (fail); try go_wp2)
  go_loopg [5, 6] k (fun kq v5 v6 w' => ∃ (x5_1 : Int) (x6_1 : Int), v5 = .int .i64 x5_1 ∧ v6 = .int .i64 x6_1 ∧ Aside0 (spec_l4Value.l0 kq l0 l1 x5_1 x6_1 = some r) ∧ Aside0 (kq ≤ k) ∧ Drawn0 w w')
  case atStart => exact ⟨(0), (0), sR, sR, H', ⟨Nat.le_refl _⟩, by repeat (first | exact Drawn0.refl _ | apply Drawn0.step)⟩
  case round =>
    clear H'; obtain ⟨x5_1, x6_1, rfl, rfl, HA, HK1, ⟨m1, rfl⟩⟩ := hrel; cases gk with
    | zero => exact absurd HA.out (by simp [spec_l4Value.l0])
    | succ k1 =>
      have H := HA.out; clear HA; simp only [spec_l4Value.l0] at H
      by_cases c3 : x6_1 < (l0.length : Int)
      · rw [if_pos c3] at H
        have c3b0 : decide (x6_1 < (l0.length : Int)) = true := decide_eq_true c3; clear c3; obtain ⟨c4, H⟩ := ifN H; have c4b0 : decide (0 ≤ x6_1) = true := decide_eq_true c4; clear c4; obtain ⟨c5, H⟩ := ifN H; have c5b0 : decide (x6_1 < (l1.length : Int)) = true := decide_eq_true c5; clear c5; have H' := Aside0.mk H; clear H; have p389 : 0 ≤ (x6_1 : Int) := oD; have q389 : x6_1 < (l0.length : Int) := oD; obtain ⟨ad389, e389, hx389_0⟩ := Kd.at_int HR0.out x6_1 p389 q389; cases e389; replace p389 := eq_true p389; replace q389 := eq_true q389; have p390 : 0 ≤ (x6_1 : Int) := oD; have q390 : x6_1 < (l1.length : Int) := oD; obtain ⟨ad390, e390, hx390_0⟩ := Kd.at_int HR1.out x6_1 p390 q390; cases e390; replace p390 := eq_true p390; replace q390 := eq_true q390; have p391 : 0 ≤ (x6_1 : Int) := oD; have q391 : x6_1 < (l1.length : Int) := oD; obtain ⟨ad391, e391, hx391_0⟩ := Kd.at_int HR1.out x6_1 p391 q391; obtain rfl : ad390 = ad391 := (by injection e391); replace p391 := eq_true p391; replace q391 := eq_true q391
        go_wp2
        repeat (go_quiet (fail); try go_wp2)
        go_roundg k1
        case measure => have := HK1.out; omega
        case rel => exact ⟨(wrap64 (x5_1 + (wrap64 ((wrap64 ((rd l0 x6_1) * (rd l1 x6_1))) * (rd l1 x6_1))))), (wrap64 (x6_1 + 1)), sR, sR, H', ⟨by have := HK1.out; omega⟩, by repeat (first | exact Drawn0.refl _ | apply Drawn0.step)⟩
      rw [if_neg c3] at H; have c3b0 : decide (x6_1 < (l0.length : Int)) = false := decide_eq_false c3; clear c3; obtain rfl := Option.some.inj H
      go_wp2
      repeat (go_quiet (fail); try go_wp2)
      go_ret
      exact ⟨by first | rfl | (simp; done) | (simp [*]; done), by repeat (first | exact Drawn0.refl _ | apply Drawn0.step)⟩

end Go.Proofs.Ytpjgcjkodmkemaa.PFnZero
