-- Written by a program of this session (wip/print2.py): the functions that the law reaches, plain, and the walks.
import Derived.Test.YtpjgcjkodmkemaaPFnManyx0
namespace Go.Proofs.Ytpjgcjkodmkemaa.PFnMany
open Go.RowKit Go.Proofs.YtpjgcjkodmkemaaW.PrintWords Go.Proofs.YtpjgcjkodmkemaaW.PrintLast Go.Proofs.YtpjgcjkodmkemaaW.PrintMore
attribute [local go_sem] max2_int min2_int max_two min_two max_three min_three max_four min_four   -- for this text's walks alone
set_option linter.unusedVariables false
set_option linter.unusedSimpArgs false

/-! ### impl_size: function 48 -/
def impl_size.f (a0 : Int) : Option (Int) := some (mx a0 (wrap64 (-a0)))
set_option maxHeartbeats 8000000 in
set_option maxRecDepth 100000 in
theorem impl_size.calls (a0 : Int) (r : Int) (w : World) (h : impl_size.f a0 = some r) :
    Calls Try.prog 48 #[.int .i64 a0] w fun e w' => e = .returned (.int .i64 r) ∧ Below w.heap.size w w' := by
  have HB := Aside0.mk (Below.refl w.heap.size w); unfold impl_size.f at h; have H := h; clear h; obtain ⟨ji2, hji2⟩ : ∃ j_ : Int, (mx a0 (wrap64 (-a0))) = j_ := ⟨_, rfl⟩
  replace H : (some ji2) = some r := by first | (rw [hji2] at H; exact H) | (simp only [hji2] at H ⊢; exact H)
  have hji2_ : (if a0 < (wrap64 (-a0)) then (wrap64 (-a0)) else a0) = ji2 := hji2; obtain rfl := Option.some.inj H; go_enter Try.func48, Try.ntmps48
  go_wp2
  go_ret
  exact ⟨by first | rfl | (simp [errW_none, errW_some] <;> rfl) | (simp only [← hji2]; first | rfl | (simp [errW_none, errW_some] <;> rfl)) | (simp [*, errW_none, errW_some] <;> rfl), BU⟩

/-! ### impl_FormValid: function 20 -/
def impl_FormValid.l0 : Nat → List Int → List Int → Int → Int → Option (Bool)
  | 0, _, _, _, _ => none
  | k + 1, x0, x5, x6, x7 => if x7 < x6 then (if 0 ≤ x7 then (if x7 < (x5.length : Int) then (if (rd x5 x7) = 0 then (some false) else ((impl_size.f (rd x5 x7)).bind fun t102 => (if t102 > 30 then (some false) else (impl_FormValid.l0 k x0 x5 x6 (wrap64 (x7 + 1)))))) else (none)) else (none)) else (if (x0.length : Int) ≥ 1 then (some (decide ((x0.length : Int) ≤ 4))) else (some false))
def impl_FormValid.f (k : Nat) (l0 : List Int) : Option (Bool) := impl_FormValid.l0 k l0 l0 (l0.length : Int) 0
theorem impl_FormValid.mono_l : ∀ k, (∀ y0 y1 y2 y3, LeO (impl_FormValid.l0 k y0 y1 y2 y3) (impl_FormValid.l0 (k + 1) y0 y1 y2 y3))
  | 0 => fun _ _ _ _ r h => by simp [impl_FormValid.l0] at h
  | k + 1 => by
    have ih0 := impl_FormValid.mono_l k
    · intro y0 y1 y2 y3
      unfold impl_FormValid.l0
      repeat' first
      | (with_reducible exact ih0 _ _ _ _)
      | (with_reducible exact LeO.refl _)
      | (with_reducible exact LeO.none _)
      | (with_reducible refine LeO.ite ?_ ?_)
      | (with_reducible refine LeO.bind ?_ (fun _ => ?_))
      | exact ih0 _ _ _ _
      | exact LeO.none _
      | refine LeO.ite ?_ ?_
      | refine LeO.bind ?_ (fun _ => ?_)
theorem impl_FormValid.mono : ∀ a0 k, LeO (impl_FormValid.f k a0) (impl_FormValid.f (k + 1) a0) := by
  intro a0 k
  have ih0 := impl_FormValid.mono_l k
  unfold impl_FormValid.f
  repeat' first
      | (with_reducible exact ih0 _ _ _ _)
      | (with_reducible exact LeO.refl _)
      | (with_reducible exact LeO.none _)
      | (with_reducible refine LeO.ite ?_ ?_)
      | (with_reducible refine LeO.bind ?_ (fun _ => ?_))
      | exact ih0 _ _ _ _
      | exact LeO.none _
      | refine LeO.ite ?_ ?_
      | refine LeO.bind ?_ (fun _ => ?_)
set_option maxHeartbeats 8000000 in
set_option maxRecDepth 100000 in
theorem impl_FormValid.calls (k : Nat) (A0 : Option Addr) (c0 : Nat) (l0 : List Int) (r : Bool) (w : World) (hr0 : Kd.C (Kd.int .i64) w A0 l0.length l0) (hc0 : l0.length ≤ c0) (h : impl_FormValid.f k l0 = some r) :
    Calls Try.prog 20 #[.slice A0 l0.length c0] w fun e w' => e = .returned (.bool r) ∧ Below w.heap.size w w' := by
  have HR0 := Aside0.mk hr0; have HC0 := Aside0.mk hc0; clear hr0 hc0; have HB := Aside0.mk (Below.refl w.heap.size w); unfold impl_FormValid.f at h; have H := h; clear h; have H' := Aside0.mk H; clear H; go_enter Try.func20, Try.ntmps20
  go_wp2
  go_loopg [7] k (fun kq v7 w' => ∃ (x7_1 : Int), v7 = .int .i64 x7_1 ∧ Aside0 (impl_FormValid.l0 kq l0 l0 (l0.length : Int) x7_1 = some r) ∧ Aside0 (kq ≤ k) ∧ Aside0 (Below w.heap.size w w'))
  case atStart => exact ⟨(0), sR, H', ⟨Nat.le_refl _⟩, ⟨BU⟩⟩
  case round =>
    clear H'; obtain ⟨x7_1, rfl, HA, HK1, HB⟩ := hrel; cases gk with
    | zero => exact absurd HA.out (by simp [impl_FormValid.l0])
    | succ k1 =>
      have H := HA.out; clear HA; simp only [impl_FormValid.l0] at H
      by_cases c2 : x7_1 < (l0.length : Int)
      · rw [if_pos c2] at H
        have c2b0 : decide (x7_1 < (l0.length : Int)) = true := decide_eq_true c2; clear c2; obtain ⟨c3, H⟩ := ifN H; have c3b0 : decide (0 ≤ x7_1) = true := decide_eq_true c3; clear c3; obtain ⟨c4, H⟩ := ifN H; have c4b0 : decide (x7_1 < (l0.length : Int)) = true := decide_eq_true c4; clear c4
        by_cases c5 : (rd l0 x7_1) = 0
        · rw [if_pos c5] at H
          have c5b0 : ((rd l0 x7_1) == 0) = true := beq_iff_eq.mpr c5; have c5b1 : ((rd l0 x7_1) != 0) = false := bne_eq_false_iff_eq.mpr c5; clear c5; obtain rfl := Option.some.inj H; have p101 : 0 ≤ (x7_1 : Int) := oD; have q101 : x7_1 < (l0.length : Int) := oD; obtain ⟨ad101, e101, hx101_0⟩ := Kd.at_int HR0.out x7_1 p101 q101; cases e101; replace hx101_0 := (HB.out.cell (World.block_lt_of_cell? w _ hx101_0)).trans hx101_0; replace p101 := eq_true p101; replace q101 := eq_true q101
          go_wp2
          go_ret
          exact ⟨eR, BU⟩
        rw [if_neg c5] at H; have c5b0 : ((rd l0 x7_1) == 0) = false := beq_eq_false_iff_ne.mpr c5; have c5b1 : ((rd l0 x7_1) != 0) = true := bne_iff_ne.mpr c5; obtain ⟨t102, A6, H⟩ := bnd H
        by_cases c7 : t102 > 30
        · rw [if_pos c7] at H
          have c7b0 : decide (30 < t102) = true := decide_eq_true c7; clear c7; obtain rfl := Option.some.inj H; have p101 : 0 ≤ (x7_1 : Int) := oD; have q101 : x7_1 < (l0.length : Int) := oD; obtain ⟨ad101, e101, hx101_0⟩ := Kd.at_int HR0.out x7_1 p101 q101; cases e101; replace hx101_0 := (HB.out.cell (World.block_lt_of_cell? w _ hx101_0)).trans hx101_0; replace p101 := eq_true p101; replace q101 := eq_true q101
          go_wp2_with (first | (go_at_call 48; (with_reducible refine (impl_size.calls (rd l0 x7_1) t102 _ A6.out).mono ?_); rintro e w8 ⟨rfl, hb⟩; replace HB := BS hb; (try clear hb)))
          go_ret
          exact ⟨eR, BU⟩
        rw [if_neg c7] at H; have c7b0 : decide (30 < t102) = false := decide_eq_false c7; clear c7; have H' := Aside0.mk H; clear H; have p101 : 0 ≤ (x7_1 : Int) := oD; have q101 : x7_1 < (l0.length : Int) := oD; obtain ⟨ad101, e101, hx101_0⟩ := Kd.at_int HR0.out x7_1 p101 q101; cases e101; replace hx101_0 := (HB.out.cell (World.block_lt_of_cell? w _ hx101_0)).trans hx101_0; replace p101 := eq_true p101; replace q101 := eq_true q101
        go_wp2_with (first | (go_at_call 48; (with_reducible refine (impl_size.calls (rd l0 x7_1) t102 _ A6.out).mono ?_); rintro e w9 ⟨rfl, hb⟩; replace HB := BS hb; (try clear hb)))
        go_roundg k1
        case measure => have := HK1.out; omega
        case rel => exact ⟨(wrap64 (x7_1 + 1)), sR, H', ⟨by have := HK1.out; omega⟩, ⟨BU⟩⟩
      rw [if_neg c2] at H; have c2b0 : decide (x7_1 < (l0.length : Int)) = false := decide_eq_false c2; clear c2
      by_cases c10 : (l0.length : Int) ≥ 1
      · rw [if_pos c10] at H
        have c10b0 : decide (1 ≤ (l0.length : Int)) = true := decide_eq_true c10; have c10b1 : decide (1 ≤ l0.length) = true := decide_eq_true (by omega); clear c10; obtain rfl := Option.some.inj H
        go_wp2
        go_ret
        exact ⟨eR, BU⟩
      rw [if_neg c10] at H; have c10b0 : decide (1 ≤ (l0.length : Int)) = false := decide_eq_false c10; have c10b1 : decide (1 ≤ l0.length) = false := decide_eq_false (by omega); clear c10; obtain rfl := Option.some.inj H
      go_wp2
      go_ret
      exact ⟨eR, BU⟩

/-! ### impl_split: function 73 -/
def impl_split.l0 : Nat → Int → Int → Int → Option (Int × Int)
  | 0, _, _, _ => none
  | k + 1, x0, x1, x6 => if x1 = 0 then (none) else (if (Int.tmod x0 x1) = 0 then (impl_split.l0 k (wrap64 (Int.tdiv x0 x1)) x1 (wrap64 (x6 + 1))) else (some (x6, x0)))
def impl_split.f (k : Nat) (a0 : Int) (a1 : Int) : Option (Int × Int) := impl_split.l0 k a0 a1 0
theorem impl_split.mono_l : ∀ k, (∀ y0 y1 y2, LeO (impl_split.l0 k y0 y1 y2) (impl_split.l0 (k + 1) y0 y1 y2))
  | 0 => fun _ _ _ r h => by simp [impl_split.l0] at h
  | k + 1 => by
    have ih0 := impl_split.mono_l k
    · intro y0 y1 y2
      unfold impl_split.l0
      repeat' first
      | (with_reducible exact ih0 _ _ _)
      | (with_reducible exact LeO.refl _)
      | (with_reducible exact LeO.none _)
      | (with_reducible refine LeO.ite ?_ ?_)
      | (with_reducible refine LeO.bind ?_ (fun _ => ?_))
      | exact ih0 _ _ _
      | exact LeO.none _
      | refine LeO.ite ?_ ?_
      | refine LeO.bind ?_ (fun _ => ?_)
theorem impl_split.mono : ∀ a0 a1 k, LeO (impl_split.f k a0 a1) (impl_split.f (k + 1) a0 a1) := by
  intro a0 a1 k
  have ih0 := impl_split.mono_l k
  unfold impl_split.f
  repeat' first
      | (with_reducible exact ih0 _ _ _)
      | (with_reducible exact LeO.refl _)
      | (with_reducible exact LeO.none _)
      | (with_reducible refine LeO.ite ?_ ?_)
      | (with_reducible refine LeO.bind ?_ (fun _ => ?_))
      | exact ih0 _ _ _
      | exact LeO.none _
      | refine LeO.ite ?_ ?_
      | refine LeO.bind ?_ (fun _ => ?_)
set_option maxHeartbeats 8000000 in
set_option maxRecDepth 100000 in
theorem impl_split.calls (k : Nat) (a0 : Int) (a1 : Int) (r1 : Int) (r2 : Int) (w : World) (h : impl_split.f k a0 a1 = some (r1, r2)) :
    Calls Try.prog 73 #[.int .i64 a0, .int .i64 a1] w fun e w' => e = .returned (.tuple #[.int .i64 r1, .int .i64 r2]) ∧ Drawn0 w w' := by
  unfold impl_split.f at h; have H := h; clear h; have H' := Aside0.mk H; clear H; go_enter Try.func73, Try.ntmps73
  go_wp2
  go_loopg [0, 6] k (fun kq v0 v6 w' => ∃ (x0_1 : Int) (x6_1 : Int), v0 = .int .i64 x0_1 ∧ v6 = .int .i64 x6_1 ∧ Aside0 (impl_split.l0 kq x0_1 a1 x6_1 = some (r1, r2)) ∧ Aside0 (kq ≤ k) ∧ Drawn0 w w')
  case atStart => exact ⟨(a0), (0), sR, sR, H', ⟨Nat.le_refl _⟩, by repeat (first | exact Drawn0.refl _ | apply Drawn0.step)⟩
  case round =>
    clear H'; obtain ⟨x0_1, x6_1, rfl, rfl, HA, HK1, ⟨m1, rfl⟩⟩ := hrel; cases gk with
    | zero => exact absurd HA.out (by simp [impl_split.l0])
    | succ k1 =>
      have H := HA.out; clear HA; simp only [impl_split.l0] at H; obtain ⟨c3, H⟩ := ifM H; have c3b0 : (a1 == 0) = false := beq_eq_false_iff_ne.mpr c3; have c3b1 : (a1 != 0) = true := bne_iff_ne.mpr c3
      by_cases c4 : (Int.tmod x0_1 a1) = 0
      · rw [if_pos c4] at H
        have c4b0 : ((Int.tmod x0_1 a1) == 0) = true := beq_iff_eq.mpr c4; have c4b1 : ((Int.tmod x0_1 a1) != 0) = false := bne_eq_false_iff_eq.mpr c4; clear c4; have H' := Aside0.mk H; clear H
        go_wp2
        go_roundg k1
        case measure => have := HK1.out; omega
        case rel => exact ⟨(wrap64 (Int.tdiv x0_1 a1)), (wrap64 (x6_1 + 1)), sR, sR, H', ⟨by have := HK1.out; omega⟩, by repeat (first | exact Drawn0.refl _ | apply Drawn0.step)⟩
      rw [if_neg c4] at H; have c4b0 : ((Int.tmod x0_1 a1) == 0) = false := beq_eq_false_iff_ne.mpr c4; have c4b1 : ((Int.tmod x0_1 a1) != 0) = true := bne_iff_ne.mpr c4; simp only [Option.some.injEq, Prod.mk.injEq] at H; obtain ⟨rfl, rfl⟩ := H
      go_wp2
      go_ret2
      exact ⟨by first | rfl | (simp; done) | (simp [*]; done), by repeat (first | exact Drawn0.refl _ | apply Drawn0.step)⟩

/-! ### impl_primesOf: function 64 -/
def impl_primesOf.l0 : Nat → Int → List Int → Int → Option (List Int)
  | 0, _, _, _ => none
  | k + 1, x0, x3, x4 => if (wrap64 (x4 * x4)) ≤ x0 then (if x4 = 0 then (none) else (if (Int.tmod x0 x4) = 0 then (if x3.length < 17592186044416 then ((impl_split.f k x0 x4).bind fun bt110 => (impl_primesOf.l0 k bt110.2 (x3 ++ [x4]) (wrap64 (x4 + 1)))) else (none)) else (impl_primesOf.l0 k x0 x3 (wrap64 (x4 + 1))))) else (if x0 > 1 then (if x3.length < 17592186044416 then (some (x3 ++ [x0])) else (none)) else (some x3))
def impl_primesOf.f (k : Nat) (a0 : Int) : Option (List Int) := (impl_size.f a0).bind fun t106 => (impl_primesOf.l0 k t106 (([] : List Int)) 2)
theorem impl_primesOf.mono_l : ∀ k, (∀ y0 y1 y2, LeO (impl_primesOf.l0 k y0 y1 y2) (impl_primesOf.l0 (k + 1) y0 y1 y2))
  | 0 => fun _ _ _ r h => by simp [impl_primesOf.l0] at h
  | k + 1 => by
    have ih0 := impl_primesOf.mono_l k
    · intro y0 y1 y2
      unfold impl_primesOf.l0
      repeat' first
      | (with_reducible exact ih0 _ _ _)
      | (with_reducible exact impl_split.mono _ _ _)
      | (with_reducible exact LeO.refl _)
      | (with_reducible exact LeO.none _)
      | (with_reducible refine LeO.ite ?_ ?_)
      | (with_reducible refine LeO.bind ?_ (fun _ => ?_))
      | exact ih0 _ _ _
      | exact impl_split.mono _ _ _
      | exact LeO.none _
      | refine LeO.ite ?_ ?_
      | refine LeO.bind ?_ (fun _ => ?_)
theorem impl_primesOf.mono : ∀ a0 k, LeO (impl_primesOf.f k a0) (impl_primesOf.f (k + 1) a0) := by
  intro a0 k
  have ih0 := impl_primesOf.mono_l k
  unfold impl_primesOf.f
  repeat' first
      | (with_reducible exact ih0 _ _ _)
      | (with_reducible exact impl_split.mono _ _ _)
      | (with_reducible exact LeO.refl _)
      | (with_reducible exact LeO.none _)
      | (with_reducible refine LeO.ite ?_ ?_)
      | (with_reducible refine LeO.bind ?_ (fun _ => ?_))
      | exact ih0 _ _ _
      | exact impl_split.mono _ _ _
      | exact LeO.none _
      | refine LeO.ite ?_ ?_
      | refine LeO.bind ?_ (fun _ => ?_)
set_option maxHeartbeats 8000000 in
set_option maxRecDepth 100000 in
theorem impl_primesOf.calls (k : Nat) (a0 : Int) (r : List Int) (w : World) (h : impl_primesOf.f k a0 = some r) :
    Calls Try.prog 64 #[.int .i64 a0] w fun e w' => ∃ v0_ : Value, e = .returned (v0_) ∧ Kd.R (Kd.int .i64) 3 w' w.heap.size (fun _ => True) v0_ r ∧ Below w.heap.size w w' := by
  have HB := Aside0.mk (Below.refl w.heap.size w); unfold impl_primesOf.f at h; have H := h; clear h; obtain ⟨y103, hy103⟩ : ∃ y_ : List Int, y_ = (([] : List Int)) := ⟨_, rfl⟩; replace H : ((impl_size.f a0).bind fun t106 => (impl_primesOf.l0 k t106 y103 2)) = some r := rH hy103 H; have Ny103 := Aside0.mk hy103; clear hy103; obtain ⟨t106, A2, H⟩ := bnd H; have H' := Aside0.mk H; clear H; go_enter Try.func64, Try.ntmps64
  go_wp2_with (first | ((with_reducible refine gate_dst (N := 5) rfl ?_); refine Kd.R_lit (Kd.int .i64) _ 3 ?hg (N := 5) ?hd (xs := ([] : List Int)) (inner := []) (ok := fun _ => True) (okp := fun _ => True) ?hr ?hp (fun _ hk => hk) trivial (Below.refl _ _) (Nat.le_refl _) (by simp) ?_; (case hd => rfl); (case hg => rfl); (case hr => first | (go_simp; done) | (go_simp; rfl)); (case hp => exact (Reps.none _ _)); intro v104 w3 ho4 hb hg_ hnew_; clear hg_ hnew_; (first | rw [← Ny103.out] at ho4 | (simp only [Int.reduceToNat] at ho4; rw [← Ny103.out] at ho4)); have HO105 := Aside0.mk (Kd.R_lower ho4 (below_size BU)); replace HB := BS hb; clear hb ho4) | ((with_reducible refine gate_callee (f := 48) rfl ?_); refine goesK (some 7) Try.func48 #[.int .i64 a0] ?_; (with_reducible refine (impl_size.calls a0 t106 _ A2.out).mono ?_); rintro e w5 ⟨rfl, hb⟩; refine ⟨_, rfl, ?_⟩; replace HO105 := Aside0.mk (Kd.R_below (U HO105.out) hb); replace HB := BS hb; (try clear hb)))
  go_loopg [0, 3, 4] k (fun kq v0 v3 v4 w' => ∃ (x0_1 : Int) (x3_1 : List Int) (x4_1 : Int), v0 = .int .i64 x0_1 ∧ v4 = .int .i64 x4_1 ∧ Aside0 (impl_primesOf.l0 kq x0_1 x3_1 x4_1 = some r) ∧ Aside0 (kq ≤ k) ∧ Aside0 (Kd.R (Kd.int .i64) 3 w' w.heap.size (fun _ => True) v3 x3_1) ∧ Aside0 (Below w.heap.size w w'))
  case atStart => exact ⟨(t106), (y103), (2), sR, sR, H', ⟨Nat.le_refl _⟩, ⟨U HO105.out⟩, ⟨BU⟩⟩
  case round =>
    clear H'; obtain ⟨x0_1, x3_1, x4_1, rfl, rfl, HA, HK1, HO_3, HB⟩ := hrel; cases gk with
    | zero => exact absurd HA.out (by simp [impl_primesOf.l0])
    | succ k1 =>
      have H := HA.out; clear HA; simp only [impl_primesOf.l0] at H
      by_cases c6 : (wrap64 (x4_1 * x4_1)) ≤ x0_1
      · rw [if_pos c6] at H
        have c6b0 : decide ((wrap64 (x4_1 * x4_1)) ≤ x0_1) = true := decide_eq_true c6; clear c6; obtain ⟨c7, H⟩ := ifM H; have c7b0 : (x4_1 == 0) = false := beq_eq_false_iff_ne.mpr c7; have c7b1 : (x4_1 != 0) = true := bne_iff_ne.mpr c7
        by_cases c8 : (Int.tmod x0_1 x4_1) = 0
        · rw [if_pos c8] at H
          have c8b0 : ((Int.tmod x0_1 x4_1) == 0) = true := beq_iff_eq.mpr c8; have c8b1 : ((Int.tmod x0_1 x4_1) != 0) = false := bne_eq_false_iff_eq.mpr c8; clear c8; obtain ⟨c9, H⟩ := ifN H; have LMc9 := Aside0.mk c9; clear c9; obtain ⟨y107, hy107⟩ : ∃ y_ : List Int, y_ = (x3_1 ++ [x4_1]) := ⟨_, rfl⟩; replace H : ((impl_split.f k1 x0_1 x4_1).bind fun bt110 => (impl_primesOf.l0 k1 bt110.2 y107 (wrap64 (x4_1 + 1)))) = some r := rH hy107 H; have Ny107 := Aside0.mk hy107; clear hy107; obtain ⟨⟨t110, t111⟩, A10, H⟩ := bnd H; replace H : (impl_primesOf.l0 k1 t111 y107 (wrap64 (x4_1 + 1))) = some r := H; have H' := Aside0.mk H; clear H
          go_wp2_with (first | ((with_reducible refine gate_builtin (b := .append) (xs := #[.tmp 19, .tmp 21]) rfl ?_); at_builtin; refine Kd.R_append (Kd.int .i64) (w0 := w) w.heap.size rfl (.tmp 19) (.tmp 21) 23 3 (.int .i64 0) 8 rfl Try.underlying23 info3 rfl (by decide) (by omega) u3 x3_1 x4_1 [.int .i64 x4_1] (fun _ => True) (fun _ => False) rfl rfl ?aP (fun _ hk => hk.elim) ?aF ?aO ?aB ?aS ?aL ?_; (case aP => exact rfl); (case aB => exact BU); (case aF => exact (fun _ _ => trivial)); (case aO => exact (U HO_3.out)); (case aS => exact (below_size BU)); (case aL => have := LMc9.out; omega); intro v108 w11 ho hb hg hat; rw [← Ny107.out] at ho; have n0_ := Aside0.mk (hb); have n1_ := Aside0.mk (ho); try clear HB; clear HO_3; have HB := n0_; have HO109 := n1_; clear n0_ n1_; clear ho hb hg hat) | ((with_reducible refine gate_callee (f := 73) rfl ?_); refine goesK (some 26) Try.func73 #[.int .i64 x0_1, .int .i64 x4_1] ?_; (with_reducible refine (impl_split.calls k1 x0_1 x4_1 t110 t111 _ A10.out).mono ?_); rintro e w' ⟨rfl, ⟨nd, rfl⟩⟩; refine ⟨_, rfl, ?_⟩))
          go_roundg k1
          case measure => have := HK1.out; omega
          case rel => exact ⟨(t111), (y107), (wrap64 (x4_1 + 1)), sR, sR, H', ⟨by have := HK1.out; omega⟩, ⟨U HO109.out⟩, ⟨BU⟩⟩
        rw [if_neg c8] at H; have c8b0 : ((Int.tmod x0_1 x4_1) == 0) = false := beq_eq_false_iff_ne.mpr c8; have c8b1 : ((Int.tmod x0_1 x4_1) != 0) = true := bne_iff_ne.mpr c8; have H' := Aside0.mk H; clear H
        go_wp2
        go_roundg k1
        case measure => have := HK1.out; omega
        case rel => exact ⟨(x0_1), (x3_1), (wrap64 (x4_1 + 1)), sR, sR, H', ⟨by have := HK1.out; omega⟩, ⟨U HO_3.out⟩, ⟨BU⟩⟩
      rw [if_neg c6] at H; have c6b0 : decide ((wrap64 (x4_1 * x4_1)) ≤ x0_1) = false := decide_eq_false c6; clear c6
      by_cases c12 : x0_1 > 1
      · rw [if_pos c12] at H
        have c12b0 : decide (1 < x0_1) = true := decide_eq_true c12; clear c12; obtain ⟨c13, H⟩ := ifN H; have LMc13 := Aside0.mk c13; clear c13; obtain ⟨y112, hy112⟩ : ∃ y_ : List Int, y_ = (x3_1 ++ [x0_1]) := ⟨_, rfl⟩; replace H : (some y112) = some r := rH hy112 H; have Ny112 := Aside0.mk hy112; clear hy112; obtain rfl := Option.some.inj H
        go_wp2_with (first | ((with_reducible refine gate_builtin (b := .append) (xs := #[.tmp 31, .tmp 33]) rfl ?_); at_builtin; refine Kd.R_append (Kd.int .i64) (w0 := w) w.heap.size rfl (.tmp 31) (.tmp 33) 23 3 (.int .i64 0) 8 rfl Try.underlying23 info3 rfl (by decide) (by omega) u3 x3_1 x0_1 [.int .i64 x0_1] (fun _ => True) (fun _ => False) rfl rfl ?aP (fun _ hk => hk.elim) ?aF ?aO ?aB ?aS ?aL ?_; (case aP => exact rfl); (case aB => exact BU); (case aF => exact (fun _ _ => trivial)); (case aO => exact (U HO_3.out)); (case aS => exact (below_size BU)); (case aL => have := LMc13.out; omega); intro v113 w14 ho hb hg hat; rw [← Ny112.out] at ho; have n0_ := Aside0.mk (hb); have n1_ := Aside0.mk (ho); try clear HB; clear HO_3; have HB := n0_; have HO114 := n1_; clear n0_ n1_; clear ho hb hg hat))
        go_ret
        exact ⟨_, eR, U HO114.out, BU⟩
      rw [if_neg c12] at H; have c12b0 : decide (1 < x0_1) = false := decide_eq_false c12; clear c12; obtain rfl := Option.some.inj H
      go_wp2
      go_ret
      exact ⟨_, eR, U HO_3.out, BU⟩

/-! ### slices_Index_int_int: function 78 -/
def slices_Index_int_int.l0 : Nat → List Int → Int → Int → Int → Option (Int)
  | 0, _, _, _, _ => none
  | k + 1, x0, x1, x7, x8 => if x8 < x7 then (if 0 ≤ x8 then (if x8 < (x0.length : Int) then (if x1 = (rd x0 x8) then (some x8) else (slices_Index_int_int.l0 k x0 x1 x7 (wrap64 (x8 + 1)))) else (none)) else (none)) else (some (-1))
def slices_Index_int_int.f (k : Nat) (l0 : List Int) (a1 : Int) : Option (Int) := slices_Index_int_int.l0 k l0 a1 (l0.length : Int) 0
theorem slices_Index_int_int.mono_l : ∀ k, (∀ y0 y1 y2 y3, LeO (slices_Index_int_int.l0 k y0 y1 y2 y3) (slices_Index_int_int.l0 (k + 1) y0 y1 y2 y3))
  | 0 => fun _ _ _ _ r h => by simp [slices_Index_int_int.l0] at h
  | k + 1 => by
    have ih0 := slices_Index_int_int.mono_l k
    · intro y0 y1 y2 y3
      unfold slices_Index_int_int.l0
      repeat' first
      | (with_reducible exact ih0 _ _ _ _)
      | (with_reducible exact LeO.refl _)
      | (with_reducible exact LeO.none _)
      | (with_reducible refine LeO.ite ?_ ?_)
      | (with_reducible refine LeO.bind ?_ (fun _ => ?_))
      | exact ih0 _ _ _ _
      | exact LeO.none _
      | refine LeO.ite ?_ ?_
      | refine LeO.bind ?_ (fun _ => ?_)
theorem slices_Index_int_int.mono : ∀ a0 a1 k, LeO (slices_Index_int_int.f k a0 a1) (slices_Index_int_int.f (k + 1) a0 a1) := by
  intro a0 a1 k
  have ih0 := slices_Index_int_int.mono_l k
  unfold slices_Index_int_int.f
  repeat' first
      | (with_reducible exact ih0 _ _ _ _)
      | (with_reducible exact LeO.refl _)
      | (with_reducible exact LeO.none _)
      | (with_reducible refine LeO.ite ?_ ?_)
      | (with_reducible refine LeO.bind ?_ (fun _ => ?_))
      | exact ih0 _ _ _ _
      | exact LeO.none _
      | refine LeO.ite ?_ ?_
      | refine LeO.bind ?_ (fun _ => ?_)
set_option maxHeartbeats 8000000 in
set_option maxRecDepth 100000 in
theorem slices_Index_int_int.calls (k : Nat) (A0 : Option Addr) (c0 : Nat) (l0 : List Int) (a1 : Int) (r : Int) (w : World) (hr0 : Kd.C (Kd.int .i64) w A0 l0.length l0) (hc0 : l0.length ≤ c0) (h : slices_Index_int_int.f k l0 a1 = some r) :
    Calls Try.prog 78 #[.slice A0 l0.length c0, .int .i64 a1] w fun e w' => e = .returned (.int .i64 r) ∧ Drawn0 w w' := by
  have HR0 := Aside0.mk hr0; have HC0 := Aside0.mk hc0; clear hr0 hc0; unfold slices_Index_int_int.f at h; have H := h; clear h; have H' := Aside0.mk H; clear H; go_enter Try.func78, Try.ntmps78
  go_wp2
  go_loopg [8] k (fun kq v8 w' => ∃ (x8_1 : Int), v8 = .int .i64 x8_1 ∧ Aside0 (slices_Index_int_int.l0 kq l0 a1 (l0.length : Int) x8_1 = some r) ∧ Aside0 (kq ≤ k) ∧ Drawn0 w w')
  case atStart => exact ⟨(0), sR, H', ⟨Nat.le_refl _⟩, by repeat (first | exact Drawn0.refl _ | apply Drawn0.step)⟩
  case round =>
    clear H'; obtain ⟨x8_1, rfl, HA, HK1, ⟨m1, rfl⟩⟩ := hrel; cases gk with
    | zero => exact absurd HA.out (by simp [slices_Index_int_int.l0])
    | succ k1 =>
      have H := HA.out; clear HA; simp only [slices_Index_int_int.l0] at H
      by_cases c3 : x8_1 < (l0.length : Int)
      · rw [if_pos c3] at H
        have c3b0 : decide (x8_1 < (l0.length : Int)) = true := decide_eq_true c3; clear c3; obtain ⟨c4, H⟩ := ifN H; have c4b0 : decide (0 ≤ x8_1) = true := decide_eq_true c4; clear c4; obtain ⟨c5, H⟩ := ifN H; have c5b0 : decide (x8_1 < (l0.length : Int)) = true := decide_eq_true c5; clear c5
        by_cases c6 : a1 = (rd l0 x8_1)
        · rw [if_pos c6] at H
          have c6b0 : (a1 == (rd l0 x8_1)) = true := beq_iff_eq.mpr c6; have c6b1 : (a1 != (rd l0 x8_1)) = false := bne_eq_false_iff_eq.mpr c6; clear c6; obtain rfl := Option.some.inj H; have p115 : 0 ≤ (x8_1 : Int) := oD; have q115 : x8_1 < (l0.length : Int) := oD; obtain ⟨ad115, e115, hx115_0⟩ := Kd.at_int HR0.out x8_1 p115 q115; cases e115; replace p115 := eq_true p115; replace q115 := eq_true q115
          go_wp2
          go_ret
          exact ⟨by first | rfl | (simp; done) | (simp [*]; done), by repeat (first | exact Drawn0.refl _ | apply Drawn0.step)⟩
        rw [if_neg c6] at H; have c6b0 : (a1 == (rd l0 x8_1)) = false := beq_eq_false_iff_ne.mpr c6; have c6b1 : (a1 != (rd l0 x8_1)) = true := bne_iff_ne.mpr c6; have H' := Aside0.mk H; clear H; have p115 : 0 ≤ (x8_1 : Int) := oD; have q115 : x8_1 < (l0.length : Int) := oD; obtain ⟨ad115, e115, hx115_0⟩ := Kd.at_int HR0.out x8_1 p115 q115; cases e115; replace p115 := eq_true p115; replace q115 := eq_true q115
        go_wp2
        go_roundg k1
        case measure => have := HK1.out; omega
        case rel => exact ⟨(wrap64 (x8_1 + 1)), sR, H', ⟨by have := HK1.out; omega⟩, by repeat (first | exact Drawn0.refl _ | apply Drawn0.step)⟩
      rw [if_neg c3] at H; have c3b0 : decide (x8_1 < (l0.length : Int)) = false := decide_eq_false c3; clear c3; obtain rfl := Option.some.inj H
      go_wp2
      go_ret
      exact ⟨by first | rfl | (simp; done) | (simp [*]; done), by repeat (first | exact Drawn0.refl _ | apply Drawn0.step)⟩

/-! ### slices_Contains_int_int: function 71 -/
def slices_Contains_int_int.f (k : Nat) (l0 : List Int) (a1 : Int) : Option (Bool) := (slices_Index_int_int.f k l0 a1).bind fun t116 => (some (decide (t116 ≥ 0)))
theorem slices_Contains_int_int.mono : ∀ a0 a1 k, LeO (slices_Contains_int_int.f k a0 a1) (slices_Contains_int_int.f (k + 1) a0 a1) := by
  intro a0 a1 k
  unfold slices_Contains_int_int.f
  repeat' first
      | (with_reducible exact slices_Index_int_int.mono _ _ _)
      | (with_reducible exact LeO.refl _)
      | (with_reducible exact LeO.none _)
      | (with_reducible refine LeO.ite ?_ ?_)
      | (with_reducible refine LeO.bind ?_ (fun _ => ?_))
      | exact slices_Index_int_int.mono _ _ _
      | exact LeO.none _
      | refine LeO.ite ?_ ?_
      | refine LeO.bind ?_ (fun _ => ?_)
set_option maxHeartbeats 8000000 in
set_option maxRecDepth 100000 in
theorem slices_Contains_int_int.calls (k : Nat) (A0 : Option Addr) (c0 : Nat) (l0 : List Int) (a1 : Int) (r : Bool) (w : World) (hr0 : Kd.C (Kd.int .i64) w A0 l0.length l0) (hc0 : l0.length ≤ c0) (h : slices_Contains_int_int.f k l0 a1 = some r) :
    Calls Try.prog 71 #[.slice A0 l0.length c0, .int .i64 a1] w fun e w' => e = .returned (.bool r) ∧ Drawn0 w w' := by
  have HR0 := Aside0.mk hr0; have HC0 := Aside0.mk hc0; clear hr0 hc0; unfold slices_Contains_int_int.f at h; have H := h; clear h; obtain ⟨t116, A3, H⟩ := bnd H; obtain rfl := Option.some.inj H; go_enter Try.func71, Try.ntmps71
  go_wp2_with (first | ((with_reducible refine gate_callee (f := 78) rfl ?_); refine goesK (some 7) Try.func78 #[.slice A0 l0.length c0, .int .i64 a1] ?_; (with_reducible refine (slices_Index_int_int.calls k _ _ l0 a1 t116 _ ?side1 ?side2 A3.out).mono ?_); (case side1 => exact U HR0.out); (case side2 => exact HC0.out); rintro e w' ⟨rfl, ⟨nd, rfl⟩⟩; refine ⟨_, rfl, ?_⟩))
  go_ret
  exact ⟨by first | rfl | (simp; done) | (simp [*]; done), by repeat (first | exact Drawn0.refl _ | apply Drawn0.step)⟩

/-! ### cmp_isNaN_int: function 98 -/
def cmp_isNaN_int.f (a0 : Int) : Option (Bool) := some (a0 != a0)
set_option maxHeartbeats 8000000 in
set_option maxRecDepth 100000 in
theorem cmp_isNaN_int.calls (a0 : Int) (r : Bool) (w : World) (h : cmp_isNaN_int.f a0 = some r) :
    Calls Try.prog 98 #[.int .i64 a0] w fun e w' => e = .returned (.bool r) ∧ Drawn0 w w' := by
  unfold cmp_isNaN_int.f at h; have H := h; clear h; obtain rfl := Option.some.inj H; go_enter Try.func98, Try.ntmps98
  go_wp2
  go_ret
  exact ⟨by first | rfl | (simp; done) | (simp [*]; done), by repeat (first | exact Drawn0.refl _ | apply Drawn0.step)⟩

/-! ### cmp_Less_int: function 88 -/
def cmp_Less_int.f (a0 : Int) (a1 : Int) : Option (Bool) := (cmp_isNaN_int.f a0).bind fun t117 => (if t117 = true then ((cmp_isNaN_int.f a1).bind fun t118 => (if t118 = true then (some (decide (a0 < a1))) else (some true))) else (some (decide (a0 < a1))))
set_option maxHeartbeats 8000000 in
set_option maxRecDepth 100000 in
theorem cmp_Less_int.calls (a0 : Int) (a1 : Int) (r : Bool) (w : World) (h : cmp_Less_int.f a0 a1 = some r) :
    Calls Try.prog 88 #[.int .i64 a0, .int .i64 a1] w fun e w' => e = .returned (.bool r) ∧ Drawn0 w w' := by
  unfold cmp_Less_int.f at h; have H := h; clear h; obtain ⟨t117, A3, H⟩ := bnd H
  by_cases c4 : t117 = true
  · subst c4
    replace H := ifT H; obtain ⟨t118, A5, H⟩ := bnd H
    by_cases c6 : t118 = true
    · subst c6
      replace H := ifT H; obtain rfl := Option.some.inj H; go_enter Try.func88, Try.ntmps88
      go_wp2_with (first | ((with_reducible refine gate_callee (f := 98) rfl ?_); refine goesK (some 6) Try.func98 #[.int .i64 a0] ?_; (with_reducible refine (cmp_isNaN_int.calls a0 true _ A3.out).mono ?_); rintro e w' ⟨rfl, ⟨nd, rfl⟩⟩; refine ⟨_, rfl, ?_⟩) | (go_at_call 98; (with_reducible refine (cmp_isNaN_int.calls a1 true _ A5.out).mono ?_); rintro e w' ⟨rfl, ⟨nd, rfl⟩⟩))
      go_ret
      exact ⟨by first | rfl | (simp; done) | (simp [*]; done), by repeat (first | exact Drawn0.refl _ | apply Drawn0.step)⟩
    replace c6 := Bool.eq_false_iff.mpr c6; subst c6; replace H := ifF H; obtain rfl := Option.some.inj H; go_enter Try.func88, Try.ntmps88
    go_wp2_with (first | ((with_reducible refine gate_callee (f := 98) rfl ?_); refine goesK (some 6) Try.func98 #[.int .i64 a0] ?_; (with_reducible refine (cmp_isNaN_int.calls a0 true _ A3.out).mono ?_); rintro e w' ⟨rfl, ⟨nd, rfl⟩⟩; refine ⟨_, rfl, ?_⟩) | (go_at_call 98; (with_reducible refine (cmp_isNaN_int.calls a1 false _ A5.out).mono ?_); rintro e w' ⟨rfl, ⟨nd, rfl⟩⟩))
    go_ret
    exact ⟨by first | rfl | (simp; done) | (simp [*]; done), by repeat (first | exact Drawn0.refl _ | apply Drawn0.step)⟩
  replace c4 := Bool.eq_false_iff.mpr c4; subst c4; replace H := ifF H; obtain rfl := Option.some.inj H; go_enter Try.func88, Try.ntmps88
  go_wp2_with (first | ((with_reducible refine gate_callee (f := 98) rfl ?_); refine goesK (some 6) Try.func98 #[.int .i64 a0] ?_; (with_reducible refine (cmp_isNaN_int.calls a0 false _ A3.out).mono ?_); rintro e w' ⟨rfl, ⟨nd, rfl⟩⟩; refine ⟨_, rfl, ?_⟩))
  go_ret
  exact ⟨by first | rfl | (simp; done) | (simp [*]; done), by repeat (first | exact Drawn0.refl _ | apply Drawn0.step)⟩

end Go.Proofs.Ytpjgcjkodmkemaa.PFnMany
