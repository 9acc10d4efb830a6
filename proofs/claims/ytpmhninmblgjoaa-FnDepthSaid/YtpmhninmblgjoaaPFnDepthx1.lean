-- Written by a program of this session (wip/print2.py): the functions that the law reaches, plain, and the walks.
import Derived.Test.YtpmhninmblgjoaaPFnDepthx0
namespace Go.Proofs.Ytpmhninmblgjoaa.PFnDepth
open Go.RowKit Go.Proofs.YtpmhninmblgjoaaW.PrintWords Go.Proofs.YtpmhninmblgjoaaW.PrintLast Go.Proofs.YtpmhninmblgjoaaW.PrintMore
attribute [local go_sem] max2_int min2_int max_two min_two max_three min_three max_four min_four   -- for this text's walks alone
set_option linter.unusedVariables false
set_option linter.unusedSimpArgs false

/-! ### impl_size: function 56 -/
def impl_size.f (a0 : Int) : Option (Int) := some (mx a0 (wrap64 (-a0)))
set_option maxHeartbeats 8000000 in
set_option maxRecDepth 100000 in
theorem impl_size.calls (a0 : Int) (r : Int) (w : World) (h : impl_size.f a0 = some r) :
    Calls Try.prog 56 #[.int .i64 a0] w fun e w' => e = .returned (.int .i64 r) ∧ Below w.heap.size w w' := by
  have HB := Aside0.mk (Below.refl w.heap.size w)
  have H : (some (mx a0 (wrap64 (-a0)))) = some r := h
  clear h
  obtain ⟨ji2, hji2⟩ : ∃ j_ : Int, (mx a0 (wrap64 (-a0))) = j_ := ⟨_, rfl⟩
  replace H : (some ji2) = some r := by first | (rw [hji2] at H; exact H) | (simp only [hji2] at H ⊢; exact H)
  have hji2_ : (if a0 < (wrap64 (-a0)) then (wrap64 (-a0)) else a0) = ji2 := hji2
  obtain rfl := Option.some.inj H
  go_enter Try.func56, Try.ntmps56
  go_wp2
  go_ret
  exact ⟨by first | rfl | (simp [errW_none, errW_some] <;> rfl) | (simp only [← hji2]; first | rfl | (simp [errW_none, errW_some] <;> rfl)) | (simp [*, errW_none, errW_some] <;> rfl), by repeat (first | (with_reducible first | exact HB.out | apply below_alloc | apply pw_below_drewN | apply below_drew1) | exact HB.out | exact Below.refl _ _)⟩

/-! ### impl_gcd: function 50 -/
mutual
def impl_gcd.l0 : Nat → Int → List Int → Int → Int → Option (Int)
  | 0, _, _, _, _ => none
  | k + 1, x3, x6, x7, x8 => if x8 < x7 then (if 0 ≤ x8 then (if x8 < (x6.length : Int) then ((impl_size.f (rd x6 x8)).bind fun t102 => (impl_gcd.l1 k x3 t102 x6 x7 x8)) else (none)) else (none)) else (some x3)
def impl_gcd.l1 : Nat → Int → Int → List Int → Int → Int → Option (Int)
  | 0, _, _, _, _, _ => none
  | k + 1, x3, x5, x6, x7, x8 => if x5 = 0 then (impl_gcd.l0 k x3 x6 x7 (wrap64 (x8 + 1))) else (impl_gcd.l1 k x5 (Int.tmod x3 x5) x6 x7 x8)
end
def impl_gcd.f (k : Nat) (l0 : List Int) : Option (Int) := impl_gcd.l0 k 0 l0 (l0.length : Int) 0
theorem impl_gcd.mono_l : ∀ k, (∀ y0 y1 y2 y3, LeO (impl_gcd.l0 k y0 y1 y2 y3) (impl_gcd.l0 (k + 1) y0 y1 y2 y3)) ∧ (∀ y0 y1 y2 y3 y4, LeO (impl_gcd.l1 k y0 y1 y2 y3 y4) (impl_gcd.l1 (k + 1) y0 y1 y2 y3 y4))
  | 0 => ⟨fun _ _ _ _ r h => by simp [impl_gcd.l0] at h, fun _ _ _ _ _ r h => by simp [impl_gcd.l1] at h⟩
  | k + 1 => by
    obtain ⟨ih0, ih1⟩ := impl_gcd.mono_l k
    refine ⟨?_, ?_⟩
    · intro y0 y1 y2 y3
      unfold impl_gcd.l0
      repeat' first
      | (with_reducible exact ih0 _ _ _ _)
      | (with_reducible exact ih1 _ _ _ _ _)
      | (with_reducible exact LeO.refl _)
      | (with_reducible exact LeO.none _)
      | (with_reducible refine LeO.ite ?_ ?_)
      | (with_reducible refine LeO.bind ?_ (fun _ => ?_))
      | exact ih0 _ _ _ _
      | exact ih1 _ _ _ _ _
      | exact LeO.none _
      | refine LeO.ite ?_ ?_
      | refine LeO.bind ?_ (fun _ => ?_)
    · intro y0 y1 y2 y3 y4
      unfold impl_gcd.l1
      repeat' first
      | (with_reducible exact ih0 _ _ _ _)
      | (with_reducible exact ih1 _ _ _ _ _)
      | (with_reducible exact LeO.refl _)
      | (with_reducible exact LeO.none _)
      | (with_reducible refine LeO.ite ?_ ?_)
      | (with_reducible refine LeO.bind ?_ (fun _ => ?_))
      | exact ih0 _ _ _ _
      | exact ih1 _ _ _ _ _
      | exact LeO.none _
      | refine LeO.ite ?_ ?_
      | refine LeO.bind ?_ (fun _ => ?_)
theorem impl_gcd.mono : ∀ a0 k, LeO (impl_gcd.f k a0) (impl_gcd.f (k + 1) a0) := by
  intro a0 k
  obtain ⟨ih0, ih1⟩ := impl_gcd.mono_l k
  unfold impl_gcd.f
  repeat' first
      | (with_reducible exact ih0 _ _ _ _)
      | (with_reducible exact ih1 _ _ _ _ _)
      | (with_reducible exact LeO.refl _)
      | (with_reducible exact LeO.none _)
      | (with_reducible refine LeO.ite ?_ ?_)
      | (with_reducible refine LeO.bind ?_ (fun _ => ?_))
      | exact ih0 _ _ _ _
      | exact ih1 _ _ _ _ _
      | exact LeO.none _
      | refine LeO.ite ?_ ?_
      | refine LeO.bind ?_ (fun _ => ?_)
set_option maxHeartbeats 8000000 in
set_option maxRecDepth 100000 in
theorem impl_gcd.calls (k : Nat) (A0 : Option Addr) (c0 : Nat) (l0 : List Int) (r : Int) (w : World) (hr0 : Kd.C (Kd.int .i64) w A0 l0.length l0) (hc0 : l0.length ≤ c0) (h : impl_gcd.f k l0 = some r) :
    Calls Try.prog 50 #[.slice A0 l0.length c0] w fun e w' => e = .returned (.int .i64 r) ∧ Below w.heap.size w w' := by
  have HR0 := Aside0.mk hr0
  have HC0 := Aside0.mk hc0
  clear hr0 hc0
  have HB := Aside0.mk (Below.refl w.heap.size w)
  have H : (impl_gcd.l0 k 0 l0 (l0.length : Int) 0) = some r := h
  clear h
  have H' := Aside0.mk H
  clear H
  go_enter Try.func50, Try.ntmps50
  go_wp2
  repeat (go_quiet (fail); try go_wp2)
  go_loopg [3, 8] k (fun kq v3 v8 w' => ∃ (x3_1 : Int) (x8_1 : Int), v3 = .int .i64 x3_1 ∧ v8 = .int .i64 x8_1 ∧ Aside0 (impl_gcd.l0 kq x3_1 l0 (l0.length : Int) x8_1 = some r) ∧ Aside0 (kq ≤ k) ∧ Aside0 (Below w.heap.size w w'))
  case atStart => exact ⟨(0), (0), (by first | rfl | (simp; done) | (simp [*]; done)), (by first | rfl | (simp; done) | (simp [*]; done)), H', ⟨Nat.le_refl _⟩, ⟨by repeat (first | (with_reducible first | exact HB.out | apply below_alloc | apply pw_below_drewN | apply below_drew1) | exact HB.out | exact Below.refl _ _)⟩⟩
  case round =>
    clear H'
    obtain ⟨x3_1, x8_1, rfl, rfl, HA, HK1, HB⟩ := hrel
    cases gk with
    | zero => exact absurd HA.out (by simp [impl_gcd.l0])
    | succ k1 =>
      have H := HA.out
      clear HA
      simp only [impl_gcd.l0] at H
      by_cases c2 : x8_1 < (l0.length : Int)
      · rw [if_pos c2] at H
        have c2b0 : decide (x8_1 < (l0.length : Int)) = true := decide_eq_true c2
        clear c2
        by_cases c3 : 0 ≤ x8_1
        · rw [if_pos c3] at H
          have c3b0 : decide (0 ≤ x8_1) = true := decide_eq_true c3
          clear c3
          by_cases c4 : x8_1 < (l0.length : Int)
          · rw [if_pos c4] at H
            have c4b0 : decide (x8_1 < (l0.length : Int)) = true := decide_eq_true c4
            clear c4
            replace H := Option.bind_eq_some_iff.mp H
            obtain ⟨t102, A50, H⟩ := H
            replace H : (impl_gcd.l1 k1 x3_1 t102 l0 (l0.length : Int) x8_1) = some r := H
            have A5 := Aside0.mk A50
            clear A50
            have H' := Aside0.mk H
            clear H
            have p101 : 0 ≤ (x8_1 : Int) := of_decide_eq_true (by first | (with_reducible assumption) | assumption)
            have q101 : x8_1 < (l0.length : Int) := of_decide_eq_true (by first | (with_reducible assumption) | assumption)
            obtain ⟨ad101, e101, hx101_0⟩ := Kd.at_int HR0.out x8_1 p101 q101
            cases e101
            replace hx101_0 := (HB.out.cell (World.block_lt_of_cell? w _ hx101_0)).trans hx101_0
            replace p101 := eq_true p101
            replace q101 := eq_true q101
            go_wp2_with (first | (go_at_call 56; (with_reducible refine (impl_size.calls (rd l0 x8_1) t102 _ A5.out).mono ?_); rintro e w6 ⟨rfl, hb⟩; have n0_ := Aside0.mk (below_step (by repeat (first | (with_reducible first | exact HB.out | apply below_alloc | apply pw_below_drewN | apply below_drew1) | exact HB.out | exact Below.refl _ _)) hb); try clear HB; have HB := n0_; clear n0_; (try clear hb); (try clear hb2); (try clear hk); (try clear hi)))
            repeat (go_quiet (first | (go_at_call 56; (with_reducible refine (impl_size.calls (rd l0 x8_1) t102 _ A5.out).mono ?_); rintro e w6 ⟨rfl, hb⟩; have n0_ := Aside0.mk (below_step (by repeat (first | (with_reducible first | exact HB.out | apply below_alloc | apply pw_below_drewN | apply below_drew1) | exact HB.out | exact Below.refl _ _)) hb); try clear HB; have HB := n0_; clear n0_; (try clear hb); (try clear hb2); (try clear hk); (try clear hi))); try go_wp2_with (first | (go_at_call 56; (with_reducible refine (impl_size.calls (rd l0 x8_1) t102 _ A5.out).mono ?_); rintro e w6 ⟨rfl, hb⟩; have n0_ := Aside0.mk (below_step (by repeat (first | (with_reducible first | exact HB.out | apply below_alloc | apply pw_below_drewN | apply below_drew1) | exact HB.out | exact Below.refl _ _)) hb); try clear HB; have HB := n0_; clear n0_; (try clear hb); (try clear hb2); (try clear hk); (try clear hi))))
            go_loopg [3, 5] k1 (fun kq v3 v5 w' => ∃ (x3_2 : Int) (x5_2 : Int), v3 = .int .i64 x3_2 ∧ v5 = .int .i64 x5_2 ∧ Aside0 (impl_gcd.l1 kq x3_2 x5_2 l0 (l0.length : Int) x8_1 = some r) ∧ Aside0 (kq ≤ k1) ∧ Aside0 (Below w.heap.size w w'))
            case atStart => exact ⟨(x3_1), (t102), (by first | rfl | (simp; done) | (simp [*]; done)), (by first | rfl | (simp; done) | (simp [*]; done)), H', ⟨Nat.le_refl _⟩, ⟨by repeat (first | (with_reducible first | exact HB.out | apply below_alloc | apply pw_below_drewN | apply below_drew1) | exact HB.out | exact Below.refl _ _)⟩⟩
            case round =>
              clear H'
              try clear p1
              try clear q1
              try clear hx1
              try clear c2
              try clear c2b0
              try clear p2
              try clear c3
              try clear c3b0
              try clear c4
              try clear c4b0
              try clear c5
              try clear hx101_0
              try clear p101
              try clear q101
              obtain ⟨x3_2, x5_2, rfl, rfl, HA, HK2, HB⟩ := hrel
              cases gk with
              | zero => exact absurd HA.out (by simp [impl_gcd.l1])
              | succ k2 =>
                have H := HA.out
                clear HA
                simp only [impl_gcd.l1] at H
                by_cases c7 : x5_2 = 0
                · rw [if_pos c7] at H
                  have c7b0 : (x5_2 == 0) = true := beq_iff_eq.mpr c7
                  have c7b1 : (x5_2 != 0) = false := bne_eq_false_iff_eq.mpr c7
                  clear c7
                  have H' := Aside0.mk H
                  clear H
                  go_wp2
                  repeat (go_quiet (fail); try go_wp2)
                  go_roundg k2
                  case measure => have := HK1.out; have := HK2.out; omega
                  case rel => exact ⟨(x3_2), (wrap64 (x8_1 + 1)), (by first | rfl | (simp; done) | (simp [*]; done)), (by first | rfl | (simp; done) | (simp [*]; done)), H', ⟨by have := HK1.out; have := HK2.out; omega⟩, ⟨by repeat (first | (with_reducible first | exact HB.out | apply below_alloc | apply pw_below_drewN | apply below_drew1) | exact HB.out | exact Below.refl _ _)⟩⟩
                rw [if_neg c7] at H
                have c7b0 : (x5_2 == 0) = false := beq_eq_false_iff_ne.mpr c7
                have c7b1 : (x5_2 != 0) = true := bne_iff_ne.mpr c7
                have H' := Aside0.mk H
                clear H
                go_wp2
                repeat (go_quiet (fail); try go_wp2)
                go_roundg k2
                case measure => have := HK1.out; have := HK2.out; omega
                case rel => exact ⟨(x5_2), (Int.tmod x3_2 x5_2), (by first | rfl | (simp; done) | (simp [*]; done)), (by first | rfl | (simp; done) | (simp [*]; done)), H', ⟨by have := HK1.out; have := HK2.out; omega⟩, ⟨by repeat (first | (with_reducible first | exact HB.out | apply below_alloc | apply pw_below_drewN | apply below_drew1) | exact HB.out | exact Below.refl _ _)⟩⟩
          rw [if_neg c4] at H
          exact absurd H (by simp)
        rw [if_neg c3] at H
        exact absurd H (by simp)
      rw [if_neg c2] at H
      have c2b0 : decide (x8_1 < (l0.length : Int)) = false := decide_eq_false c2
      clear c2
      obtain rfl := Option.some.inj H
      go_wp2
      repeat (go_quiet (fail); try go_wp2)
      go_ret
      exact ⟨by first | rfl | (simp [errW_none, errW_some] <;> rfl) | (simp [*, errW_none, errW_some] <;> rfl), by repeat (first | (with_reducible first | exact HB.out | apply below_alloc | apply pw_below_drewN | apply below_drew1) | exact HB.out | exact Below.refl _ _)⟩

/-! ### impl_TripleIs: function 29 -/
def impl_TripleIs.l0 : Nat → Int → Int → Int → List Int → Int → Int → Option (Bool)
  | 0, _, _, _, _, _, _ => none
  | k + 1, x0, x1, x2, x12, x13, x14 => if x14 < x13 then (if 0 ≤ x14 then (if x14 < (x12.length : Int) then (if (rd x12 x14) < 1 then (some false) else (if (rd x12 x14) > 100000 then (some false) else (impl_TripleIs.l0 k x0 x1 x2 x12 x13 (wrap64 (x14 + 1))))) else (none)) else (none)) else (if (wrap64 ((wrap64 (x0 * x0)) + (wrap64 (x1 * x1)))) = (wrap64 (x2 * x2)) then (if (Int.tmod x0 2) = 1 then (if (Int.tmod x1 2) = 0 then ((impl_gcd.f k (([x0, x1, x2] : List Int))).bind fun t110 => (some (t110 == 1))) else (some false)) else (some false)) else (some false))
def impl_TripleIs.f (k : Nat) (a0 : Int) (a1 : Int) (a2 : Int) : Option (Bool) := (some (([a0, a1, a2] : List Int) : List Int)).bind fun y103 => (impl_TripleIs.l0 k a0 a1 a2 y103 (y103.length : Int) 0)
theorem impl_TripleIs.mono_l : ∀ k, (∀ y0 y1 y2 y3 y4 y5, LeO (impl_TripleIs.l0 k y0 y1 y2 y3 y4 y5) (impl_TripleIs.l0 (k + 1) y0 y1 y2 y3 y4 y5))
  | 0 => fun _ _ _ _ _ _ r h => by simp [impl_TripleIs.l0] at h
  | k + 1 => by
    have ih0 := impl_TripleIs.mono_l k
    · intro y0 y1 y2 y3 y4 y5
      unfold impl_TripleIs.l0
      repeat' first
      | (with_reducible exact ih0 _ _ _ _ _ _)
      | (with_reducible exact impl_gcd.mono _ _)
      | (with_reducible exact LeO.refl _)
      | (with_reducible exact LeO.none _)
      | (with_reducible refine LeO.ite ?_ ?_)
      | (with_reducible refine LeO.bind ?_ (fun _ => ?_))
      | exact ih0 _ _ _ _ _ _
      | exact impl_gcd.mono _ _
      | exact LeO.none _
      | refine LeO.ite ?_ ?_
      | refine LeO.bind ?_ (fun _ => ?_)
theorem impl_TripleIs.mono : ∀ a0 a1 a2 k, LeO (impl_TripleIs.f k a0 a1 a2) (impl_TripleIs.f (k + 1) a0 a1 a2) := by
  intro a0 a1 a2 k
  have ih0 := impl_TripleIs.mono_l k
  unfold impl_TripleIs.f
  repeat' first
      | (with_reducible exact ih0 _ _ _ _ _ _)
      | (with_reducible exact impl_gcd.mono _ _)
      | (with_reducible exact LeO.refl _)
      | (with_reducible exact LeO.none _)
      | (with_reducible refine LeO.ite ?_ ?_)
      | (with_reducible refine LeO.bind ?_ (fun _ => ?_))
      | exact ih0 _ _ _ _ _ _
      | exact impl_gcd.mono _ _
      | exact LeO.none _
      | refine LeO.ite ?_ ?_
      | refine LeO.bind ?_ (fun _ => ?_)
set_option maxHeartbeats 8000000 in
set_option maxRecDepth 100000 in
theorem impl_TripleIs.calls (k : Nat) (a0 : Int) (a1 : Int) (a2 : Int) (r : Bool) (w : World) (h : impl_TripleIs.f k a0 a1 a2 = some r) :
    Calls Try.prog 29 #[.int .i64 a0, .int .i64 a1, .int .i64 a2] w fun e w' => e = .returned (.bool r) ∧ Below w.heap.size w w' := by
  have HB := Aside0.mk (Below.refl w.heap.size w)
  have H : ((some (([a0, a1, a2] : List Int) : List Int)).bind fun y103 => (impl_TripleIs.l0 k a0 a1 a2 y103 (y103.length : Int) 0)) = some r := h
  clear h
  obtain ⟨y103, hy103⟩ : ∃ y_ : List Int, y_ = (([a0, a1, a2] : List Int)) := ⟨_, rfl⟩
  replace H : (impl_TripleIs.l0 k a0 a1 a2 y103 (y103.length : Int) 0) = some r := by first | (rw [hy103]; with_reducible exact H) | (have H2_ := (Option.bind_some _ _).symm.trans H; rw [hy103]; with_reducible exact H2_) | (have H2_ := (Option.bind_some _ _).symm.trans H; with_reducible exact H2_) | with_reducible exact H | (rw [hy103]; exact H) | exact H
  have Ny103 := Aside0.mk hy103
  clear hy103
  have H' := Aside0.mk H
  clear H
  go_enter Try.func29, Try.ntmps29
  go_wp2_with (first | ((with_reducible refine gate_dst (N := 12) rfl ?_); (try (refine gate_guard (by rfl) ?_; dsimp only)); refine Kd.R_lit (Kd.int .i64) _ 3 ?hg (N := 12) ?hd (xs := ([a0, a1, a2] : List Int)) (inner := [.int .i64 a0, .int .i64 a1, .int .i64 a2]) (ok := fun _ => True) (okp := fun _ => True) ?hr ?hp (fun _ hk => hk) trivial (Below.refl _ _) (Nat.le_refl _) (by simp) ?_; (case hd => rfl); (case hg => rfl); (case hr => first | (go_simp; done) | (go_simp; rfl)); (case hp => exact (Reps.one (show Kd.M (Kd.int .i64) _ _ _ a0 [.int .i64 a0] from rfl) (Reps.one (show Kd.M (Kd.int .i64) _ _ _ a1 [.int .i64 a1] from rfl) (Reps.one (show Kd.M (Kd.int .i64) _ _ _ a2 [.int .i64 a2] from rfl) (Reps.none _ _))))); intro v104 w4 ho5 hb hg_ hnew_; clear hg_ hnew_; (first | rw [← Ny103.out] at ho5 | (simp only [Int.reduceToNat] at ho5; rw [← Ny103.out] at ho5)); have n0_ := Aside0.mk (Kd.R_lower ho5 (below_size (by repeat (first | (with_reducible first | exact HB.out | apply below_alloc | apply pw_below_drewN | apply below_drew1) | exact HB.out | exact Below.refl _ _)))); have n1_ := Aside0.mk (below_step (by repeat (first | (with_reducible first | exact HB.out | apply below_alloc | apply pw_below_drewN | apply below_drew1) | exact HB.out | exact Below.refl _ _)) hb); try clear HB; have HO105 := n0_; have HB := n1_; clear n0_ n1_; clear hb ho5; obtain ⟨Ao6, co6, eo6⟩ := Kd.R_slice HO105.out; subst eo6))
  go_loopg [14] k (fun kq v14 w' => ∃ (x14_1 : Int), v14 = .int .i64 x14_1 ∧ Aside0 (impl_TripleIs.l0 kq a0 a1 a2 y103 (y103.length : Int) x14_1 = some r) ∧ Aside0 (kq ≤ k) ∧ Aside0 (Kd.R (Kd.int .i64) 3 w' w.heap.size (fun _ => True) (.slice Ao6 y103.length co6) y103) ∧ Aside0 (Below w.heap.size w w'))
  case atStart => exact ⟨(0), (by first | rfl | (simp; done) | (simp [*]; done)), H', ⟨Nat.le_refl _⟩, ⟨by (with_reducible repeat (first | apply Kd.R_alloc | apply Kd.R_drewN | apply Kd.R_drew)); exact HO105.out⟩, ⟨by repeat (first | (with_reducible first | exact HB.out | apply below_alloc | apply pw_below_drewN | apply below_drew1) | exact HB.out | exact Below.refl _ _)⟩⟩
  case round =>
    clear H'
    try clear c2
    try clear p2
    obtain ⟨x14_1, rfl, HA, HK1, HO_12, HB⟩ := hrel
    cases gk with
    | zero => exact absurd HA.out (by simp [impl_TripleIs.l0])
    | succ k1 =>
      have H := HA.out
      clear HA
      simp only [impl_TripleIs.l0] at H
      by_cases c7 : x14_1 < (y103.length : Int)
      · rw [if_pos c7] at H
        have c7b0 : decide (x14_1 < (y103.length : Int)) = true := decide_eq_true c7
        clear c7
        by_cases c8 : 0 ≤ x14_1
        · rw [if_pos c8] at H
          have c8b0 : decide (0 ≤ x14_1) = true := decide_eq_true c8
          clear c8
          by_cases c9 : x14_1 < (y103.length : Int)
          · rw [if_pos c9] at H
            have c9b0 : decide (x14_1 < (y103.length : Int)) = true := decide_eq_true c9
            clear c9
            by_cases c10 : (rd y103 x14_1) < 1
            · rw [if_pos c10] at H
              have c10b0 : decide ((rd y103 x14_1) < 1) = true := decide_eq_true c10
              clear c10
              obtain rfl := Option.some.inj H
              have p106 : 0 ≤ (x14_1 : Int) := of_decide_eq_true (by first | (with_reducible assumption) | assumption)
              have q106 : x14_1 < (y103.length : Int) := of_decide_eq_true (by first | (with_reducible assumption) | assumption)
              obtain ⟨ad106, e106, hx106_0⟩ := Kd.at_int (Kd.R_reads' HO_12.out).2.2 x14_1 p106 q106
              cases e106
              replace p106 := eq_true p106
              replace q106 := eq_true q106
              go_wp2
              go_ret
              exact ⟨by first | rfl | (simp [errW_none, errW_some] <;> rfl) | (simp [*, errW_none, errW_some] <;> rfl), by repeat (first | (with_reducible first | exact HB.out | apply below_alloc | apply pw_below_drewN | apply below_drew1) | exact HB.out | exact Below.refl _ _)⟩
            rw [if_neg c10] at H
            have c10b0 : decide ((rd y103 x14_1) < 1) = false := decide_eq_false c10
            clear c10
            by_cases c11 : (rd y103 x14_1) > 100000
            · rw [if_pos c11] at H
              have c11b0 : decide (100000 < (rd y103 x14_1)) = true := decide_eq_true c11
              clear c11
              obtain rfl := Option.some.inj H
              have p106 : 0 ≤ (x14_1 : Int) := of_decide_eq_true (by first | (with_reducible assumption) | assumption)
              have q106 : x14_1 < (y103.length : Int) := of_decide_eq_true (by first | (with_reducible assumption) | assumption)
              obtain ⟨ad106, e106, hx106_0⟩ := Kd.at_int (Kd.R_reads' HO_12.out).2.2 x14_1 p106 q106
              cases e106
              replace p106 := eq_true p106
              replace q106 := eq_true q106
              go_wp2
              go_ret
              exact ⟨by first | rfl | (simp [errW_none, errW_some] <;> rfl) | (simp [*, errW_none, errW_some] <;> rfl), by repeat (first | (with_reducible first | exact HB.out | apply below_alloc | apply pw_below_drewN | apply below_drew1) | exact HB.out | exact Below.refl _ _)⟩
            rw [if_neg c11] at H
            have c11b0 : decide (100000 < (rd y103 x14_1)) = false := decide_eq_false c11
            clear c11
            have H' := Aside0.mk H
            clear H
            have p106 : 0 ≤ (x14_1 : Int) := of_decide_eq_true (by first | (with_reducible assumption) | assumption)
            have q106 : x14_1 < (y103.length : Int) := of_decide_eq_true (by first | (with_reducible assumption) | assumption)
            obtain ⟨ad106, e106, hx106_0⟩ := Kd.at_int (Kd.R_reads' HO_12.out).2.2 x14_1 p106 q106
            cases e106
            replace p106 := eq_true p106
            replace q106 := eq_true q106
            go_wp2
            go_roundg k1
            case measure => have := HK1.out; omega
            case rel => exact ⟨(wrap64 (x14_1 + 1)), (by first | rfl | (simp; done) | (simp [*]; done)), H', ⟨by have := HK1.out; omega⟩, ⟨by (with_reducible repeat (first | apply Kd.R_alloc | apply Kd.R_drewN | apply Kd.R_drew)); exact HO_12.out⟩, ⟨by repeat (first | (with_reducible first | exact HB.out | apply below_alloc | apply pw_below_drewN | apply below_drew1) | exact HB.out | exact Below.refl _ _)⟩⟩
          rw [if_neg c9] at H
          exact absurd H (by simp)
        rw [if_neg c8] at H
        exact absurd H (by simp)
      rw [if_neg c7] at H
      have c7b0 : decide (x14_1 < (y103.length : Int)) = false := decide_eq_false c7
      clear c7
      by_cases c12 : (wrap64 ((wrap64 (a0 * a0)) + (wrap64 (a1 * a1)))) = (wrap64 (a2 * a2))
      · rw [if_pos c12] at H
        have c12b0 : ((wrap64 ((wrap64 (a0 * a0)) + (wrap64 (a1 * a1)))) == (wrap64 (a2 * a2))) = true := beq_iff_eq.mpr c12
        have c12b1 : ((wrap64 ((wrap64 (a0 * a0)) + (wrap64 (a1 * a1)))) != (wrap64 (a2 * a2))) = false := bne_eq_false_iff_eq.mpr c12
        clear c12
        by_cases c13 : (Int.tmod a0 2) = 1
        · rw [if_pos c13] at H
          have c13b0 : ((Int.tmod a0 2) == 1) = true := beq_iff_eq.mpr c13
          have c13b1 : ((Int.tmod a0 2) != 1) = false := bne_eq_false_iff_eq.mpr c13
          clear c13
          by_cases c14 : (Int.tmod a1 2) = 0
          · rw [if_pos c14] at H
            have c14b0 : ((Int.tmod a1 2) == 0) = true := beq_iff_eq.mpr c14
            have c14b1 : ((Int.tmod a1 2) != 0) = false := bne_eq_false_iff_eq.mpr c14
            clear c14
            obtain ⟨y107, hy107⟩ : ∃ y_ : List Int, y_ = (([a0, a1, a2] : List Int)) := ⟨_, rfl⟩
            replace H : ((impl_gcd.f k1 y107).bind fun t110 => (some (t110 == 1))) = some r := by first | (rw [hy107]; with_reducible exact H) | (have H2_ := (Option.bind_some _ _).symm.trans H; rw [hy107]; with_reducible exact H2_) | (have H2_ := (Option.bind_some _ _).symm.trans H; with_reducible exact H2_) | with_reducible exact H | (rw [hy107]; exact H) | exact H
            have Ny107 := Aside0.mk hy107
            clear hy107
            replace H := Option.bind_eq_some_iff.mp H
            obtain ⟨t110, A150, H⟩ := H
            replace H : (some (t110 == 1)) = some r := H
            have A15 := Aside0.mk A150
            clear A150
            obtain rfl := Option.some.inj H
            go_wp2_with (first | ((with_reducible refine gate_dst (N := 50) rfl ?_); (try (refine gate_guard (by rfl) ?_; dsimp only)); refine Kd.R_lit (Kd.int .i64) _ 3 ?hg (N := 50) ?hd (xs := ([a0, a1, a2] : List Int)) (inner := [.int .i64 a0, .int .i64 a1, .int .i64 a2]) (ok := fun _ => True) (okp := fun _ => True) ?hr ?hp (fun _ hk => hk) trivial (Below.refl _ _) (Nat.le_refl _) (by simp) ?_; (case hd => rfl); (case hg => rfl); (case hr => first | (go_simp; done) | (go_simp; rfl)); (case hp => exact (Reps.one (show Kd.M (Kd.int .i64) _ _ _ a0 [.int .i64 a0] from rfl) (Reps.one (show Kd.M (Kd.int .i64) _ _ _ a1 [.int .i64 a1] from rfl) (Reps.one (show Kd.M (Kd.int .i64) _ _ _ a2 [.int .i64 a2] from rfl) (Reps.none _ _))))); intro v108 w16 ho17 hb hg_ hnew_; clear hg_ hnew_; (first | rw [← Ny107.out] at ho17 | (simp only [Int.reduceToNat] at ho17; rw [← Ny107.out] at ho17)); have n0_ := Aside0.mk (Kd.R_elder' (by (with_reducible repeat (first | apply Kd.R_alloc | apply Kd.R_drewN | apply Kd.R_drew)); exact HO_12.out) (Kd.R_base ho17) hb); have n1_ := Aside0.mk (Kd.R_lower (Kd.R_new' ho17 (Kd.R_lt (by (with_reducible repeat (first | apply Kd.R_alloc | apply Kd.R_drewN | apply Kd.R_drew)); exact HO_12.out))) (below_size (by repeat (first | (with_reducible first | exact HB.out | apply below_alloc | apply pw_below_drewN | apply below_drew1) | exact HB.out | exact Below.refl _ _)))); have n2_ := Aside0.mk (below_step (by repeat (first | (with_reducible first | exact HB.out | apply below_alloc | apply pw_below_drewN | apply below_drew1) | exact HB.out | exact Below.refl _ _)) hb); clear HO_12; try clear HB; have HO_12 := n0_; have HO109 := n1_; have HB := n2_; clear n0_ n1_ n2_; clear hb ho17; obtain ⟨Ao18, co18, eo18⟩ := Kd.R_slice HO109.out; subst eo18) | (go_at_call 50; (with_reducible refine (impl_gcd.calls k1 _ _ y107 t110 _ ?side1 ?side2 A15.out).mono ?_); (case side1 => repeat (first | exact (Kd.R_reads' HO109.out).2.2 | (with_reducible refine Kd.C_alloc ?_ _) | (with_reducible refine Kd.C_drewN ?_ _) | (with_reducible refine Kd.C_drew ?_))); (case side2 => exact (Kd.R_reads' HO109.out).2.1); rintro e w19 ⟨rfl, hb⟩; have n0_ := Aside0.mk (Kd.R_below (by (with_reducible repeat (first | apply Kd.R_alloc | apply Kd.R_drewN | apply Kd.R_drew)); exact HO_12.out) hb); have n1_ := Aside0.mk (Kd.R_below (by (with_reducible repeat (first | apply Kd.R_alloc | apply Kd.R_drewN | apply Kd.R_drew)); exact HO109.out) hb); have n2_ := Aside0.mk (below_step (by repeat (first | (with_reducible first | exact HB.out | apply below_alloc | apply pw_below_drewN | apply below_drew1) | exact HB.out | exact Below.refl _ _)) hb); clear HO_12; clear HO109; try clear HB; have HO_12 := n0_; have HO109 := n1_; have HB := n2_; clear n0_ n1_ n2_; (try clear hb); (try clear hb2); (try clear hk); (try clear hi)))
            go_ret
            exact ⟨by first | rfl | (simp [errW_none, errW_some] <;> rfl) | (simp [*, errW_none, errW_some] <;> rfl), by repeat (first | (with_reducible first | exact HB.out | apply below_alloc | apply pw_below_drewN | apply below_drew1) | exact HB.out | exact Below.refl _ _)⟩
          rw [if_neg c14] at H
          have c14b0 : ((Int.tmod a1 2) == 0) = false := beq_eq_false_iff_ne.mpr c14
          have c14b1 : ((Int.tmod a1 2) != 0) = true := bne_iff_ne.mpr c14
          obtain rfl := Option.some.inj H
          go_wp2
          go_ret
          exact ⟨by first | rfl | (simp [errW_none, errW_some] <;> rfl) | (simp [*, errW_none, errW_some] <;> rfl), by repeat (first | (with_reducible first | exact HB.out | apply below_alloc | apply pw_below_drewN | apply below_drew1) | exact HB.out | exact Below.refl _ _)⟩
        rw [if_neg c13] at H
        have c13b0 : ((Int.tmod a0 2) == 1) = false := beq_eq_false_iff_ne.mpr c13
        have c13b1 : ((Int.tmod a0 2) != 1) = true := bne_iff_ne.mpr c13
        obtain rfl := Option.some.inj H
        go_wp2
        go_ret
        exact ⟨by first | rfl | (simp [errW_none, errW_some] <;> rfl) | (simp [*, errW_none, errW_some] <;> rfl), by repeat (first | (with_reducible first | exact HB.out | apply below_alloc | apply pw_below_drewN | apply below_drew1) | exact HB.out | exact Below.refl _ _)⟩
      rw [if_neg c12] at H
      have c12b0 : ((wrap64 ((wrap64 (a0 * a0)) + (wrap64 (a1 * a1)))) == (wrap64 (a2 * a2))) = false := beq_eq_false_iff_ne.mpr c12
      have c12b1 : ((wrap64 ((wrap64 (a0 * a0)) + (wrap64 (a1 * a1)))) != (wrap64 (a2 * a2))) = true := bne_iff_ne.mpr c12
      obtain rfl := Option.some.inj H
      go_wp2
      go_ret
      exact ⟨by first | rfl | (simp [errW_none, errW_some] <;> rfl) | (simp [*, errW_none, errW_some] <;> rfl), by repeat (first | (with_reducible first | exact HB.out | apply below_alloc | apply pw_below_drewN | apply below_drew1) | exact HB.out | exact Below.refl _ _)⟩

/-! ### impl_TripleMake: function 16 -/
def impl_TripleMake.f (k : Nat) (a0 : Int) (a1 : Int) : Option (Int × Int × Int × Bool) := if a0 < 2 then (some (0, 0, 0, false)) else (if a0 > 316 then (some (0, 0, 0, false)) else (if a1 < 1 then (some (0, 0, 0, false)) else (if a1 ≥ a0 then (some (0, 0, 0, false)) else ((impl_TripleIs.f k (wrap64 ((wrap64 (a0 * a0)) - (wrap64 (a1 * a1)))) (wrap64 ((wrap64 (2 * a0)) * a1)) (wrap64 ((wrap64 (a0 * a0)) + (wrap64 (a1 * a1))))).bind fun t111 => (if t111 = true then (some (wrap64 ((wrap64 (a0 * a0)) - (wrap64 (a1 * a1))), wrap64 ((wrap64 (2 * a0)) * a1), wrap64 ((wrap64 (a0 * a0)) + (wrap64 (a1 * a1))), true)) else (some (0, 0, 0, false)))))))
theorem impl_TripleMake.mono : ∀ a0 a1 k, LeO (impl_TripleMake.f k a0 a1) (impl_TripleMake.f (k + 1) a0 a1) := by
  intro a0 a1 k
  unfold impl_TripleMake.f
  repeat' first
      | (with_reducible exact impl_TripleIs.mono _ _ _ _)
      | (with_reducible exact LeO.refl _)
      | (with_reducible exact LeO.none _)
      | (with_reducible refine LeO.ite ?_ ?_)
      | (with_reducible refine LeO.bind ?_ (fun _ => ?_))
      | exact impl_TripleIs.mono _ _ _ _
      | exact LeO.none _
      | refine LeO.ite ?_ ?_
      | refine LeO.bind ?_ (fun _ => ?_)
set_option maxHeartbeats 8000000 in
set_option maxRecDepth 100000 in
theorem impl_TripleMake.calls (k : Nat) (a0 : Int) (a1 : Int) (r1 : Int) (r2 : Int) (r3 : Int) (r4 : Bool) (w : World) (h : impl_TripleMake.f k a0 a1 = some (r1, r2, r3, r4)) :
    Calls Try.prog 16 #[.int .i64 a0, .int .i64 a1] w fun e w' => e = .returned (.tuple #[.int .i64 r1, .int .i64 r2, .int .i64 r3, .bool r4]) ∧ Below w.heap.size w w' := by
  have HB := Aside0.mk (Below.refl w.heap.size w)
  have H : (if a0 < 2 then (some (0, 0, 0, false)) else (if a0 > 316 then (some (0, 0, 0, false)) else (if a1 < 1 then (some (0, 0, 0, false)) else (if a1 ≥ a0 then (some (0, 0, 0, false)) else ((impl_TripleIs.f k (wrap64 ((wrap64 (a0 * a0)) - (wrap64 (a1 * a1)))) (wrap64 ((wrap64 (2 * a0)) * a1)) (wrap64 ((wrap64 (a0 * a0)) + (wrap64 (a1 * a1))))).bind fun t111 => (if t111 = true then (some (wrap64 ((wrap64 (a0 * a0)) - (wrap64 (a1 * a1))), wrap64 ((wrap64 (2 * a0)) * a1), wrap64 ((wrap64 (a0 * a0)) + (wrap64 (a1 * a1))), true)) else (some (0, 0, 0, false)))))))) = some (r1, r2, r3, r4) := h
  clear h
  by_cases c3 : a0 < 2
  · rw [if_pos c3] at H
    have c3b0 : decide (a0 < 2) = true := decide_eq_true c3
    clear c3
    simp only [Option.some.injEq, Prod.mk.injEq] at H
    obtain ⟨rfl, rfl, rfl, rfl⟩ := H
    go_enter Try.func16, Try.ntmps16
    go_wp2
    refine bodyPost_ret (results_list (rs := [.tmp 4, .tmp 5, .tmp 6, .tmp 7]) rfl (by simp) (.tmp (.tmp (.tmp (.tmp .nil))))) rfl ?_
    exact ⟨by first | rfl | (simp [errW_none, errW_some] <;> rfl) | (simp [*, errW_none, errW_some] <;> rfl), by repeat (first | (with_reducible first | exact HB.out | apply below_alloc | apply pw_below_drewN | apply below_drew1) | exact HB.out | exact Below.refl _ _)⟩
  rw [if_neg c3] at H
  have c3b0 : decide (a0 < 2) = false := decide_eq_false c3
  clear c3
  by_cases c4 : a0 > 316
  · rw [if_pos c4] at H
    have c4b0 : decide (316 < a0) = true := decide_eq_true c4
    clear c4
    simp only [Option.some.injEq, Prod.mk.injEq] at H
    obtain ⟨rfl, rfl, rfl, rfl⟩ := H
    go_enter Try.func16, Try.ntmps16
    go_wp2
    refine bodyPost_ret (results_list (rs := [.tmp 4, .tmp 5, .tmp 6, .tmp 7]) rfl (by simp) (.tmp (.tmp (.tmp (.tmp .nil))))) rfl ?_
    exact ⟨by first | rfl | (simp [errW_none, errW_some] <;> rfl) | (simp [*, errW_none, errW_some] <;> rfl), by repeat (first | (with_reducible first | exact HB.out | apply below_alloc | apply pw_below_drewN | apply below_drew1) | exact HB.out | exact Below.refl _ _)⟩
  rw [if_neg c4] at H
  have c4b0 : decide (316 < a0) = false := decide_eq_false c4
  clear c4
  by_cases c5 : a1 < 1
  · rw [if_pos c5] at H
    have c5b0 : decide (a1 < 1) = true := decide_eq_true c5
    clear c5
    simp only [Option.some.injEq, Prod.mk.injEq] at H
    obtain ⟨rfl, rfl, rfl, rfl⟩ := H
    go_enter Try.func16, Try.ntmps16
    go_wp2
    refine bodyPost_ret (results_list (rs := [.tmp 4, .tmp 5, .tmp 6, .tmp 7]) rfl (by simp) (.tmp (.tmp (.tmp (.tmp .nil))))) rfl ?_
    exact ⟨by first | rfl | (simp [errW_none, errW_some] <;> rfl) | (simp [*, errW_none, errW_some] <;> rfl), by repeat (first | (with_reducible first | exact HB.out | apply below_alloc | apply pw_below_drewN | apply below_drew1) | exact HB.out | exact Below.refl _ _)⟩
  rw [if_neg c5] at H
  have c5b0 : decide (a1 < 1) = false := decide_eq_false c5
  clear c5
  by_cases c6 : a1 ≥ a0
  · rw [if_pos c6] at H
    have c6b0 : decide (a0 ≤ a1) = true := decide_eq_true c6
    clear c6
    simp only [Option.some.injEq, Prod.mk.injEq] at H
    obtain ⟨rfl, rfl, rfl, rfl⟩ := H
    go_enter Try.func16, Try.ntmps16
    go_wp2
    refine bodyPost_ret (results_list (rs := [.tmp 4, .tmp 5, .tmp 6, .tmp 7]) rfl (by simp) (.tmp (.tmp (.tmp (.tmp .nil))))) rfl ?_
    exact ⟨by first | rfl | (simp [errW_none, errW_some] <;> rfl) | (simp [*, errW_none, errW_some] <;> rfl), by repeat (first | (with_reducible first | exact HB.out | apply below_alloc | apply pw_below_drewN | apply below_drew1) | exact HB.out | exact Below.refl _ _)⟩
  rw [if_neg c6] at H
  have c6b0 : decide (a0 ≤ a1) = false := decide_eq_false c6
  clear c6
  replace H := Option.bind_eq_some_iff.mp H
  obtain ⟨t111, A70, H⟩ := H
  replace H : (if t111 = true then (some (wrap64 ((wrap64 (a0 * a0)) - (wrap64 (a1 * a1))), wrap64 ((wrap64 (2 * a0)) * a1), wrap64 ((wrap64 (a0 * a0)) + (wrap64 (a1 * a1))), true)) else (some (0, 0, 0, false))) = some (r1, r2, r3, r4) := H
  have A7 := Aside0.mk A70
  clear A70
  by_cases c8 : t111 = true
  · subst c8
    have H1 : (some (wrap64 ((wrap64 (a0 * a0)) - (wrap64 (a1 * a1))), wrap64 ((wrap64 (2 * a0)) * a1), wrap64 ((wrap64 (a0 * a0)) + (wrap64 (a1 * a1))), true)) = some (r1, r2, r3, r4) := by rw [if_pos rfl] at H; exact H
    clear H
    have H := H1
    clear H1
    simp only [Option.some.injEq, Prod.mk.injEq] at H
    obtain ⟨rfl, rfl, rfl, rfl⟩ := H
    go_enter Try.func16, Try.ntmps16
    go_wp2_with (first | (go_at_call 29; (with_reducible refine (impl_TripleIs.calls k (wrap64 ((wrap64 (a0 * a0)) - (wrap64 (a1 * a1)))) (wrap64 ((wrap64 (2 * a0)) * a1)) (wrap64 ((wrap64 (a0 * a0)) + (wrap64 (a1 * a1)))) true _ A7.out).mono ?_); rintro e w9 ⟨rfl, hb⟩; have n0_ := Aside0.mk (below_step (by repeat (first | (with_reducible first | exact HB.out | apply below_alloc | apply pw_below_drewN | apply below_drew1) | exact HB.out | exact Below.refl _ _)) hb); try clear HB; have HB := n0_; clear n0_; (try clear hb); (try clear hb2); (try clear hk); (try clear hi)))
    refine bodyPost_ret (results_list (rs := [.tmp 4, .tmp 5, .tmp 6, .tmp 7]) rfl (by simp) (.tmp (.tmp (.tmp (.tmp .nil))))) rfl ?_
    exact ⟨by first | rfl | (simp [errW_none, errW_some] <;> rfl) | (simp [*, errW_none, errW_some] <;> rfl), by repeat (first | (with_reducible first | exact HB.out | apply below_alloc | apply pw_below_drewN | apply below_drew1) | exact HB.out | exact Below.refl _ _)⟩
  replace c8 := Bool.eq_false_iff.mpr c8
  subst c8
  have H1 : (some (0, 0, 0, false)) = some (r1, r2, r3, r4) := by rw [if_neg (show ¬ (false = true) by decide)] at H; exact H
  clear H
  have H := H1
  clear H1
  simp only [Option.some.injEq, Prod.mk.injEq] at H
  obtain ⟨rfl, rfl, rfl, rfl⟩ := H
  go_enter Try.func16, Try.ntmps16
  go_wp2_with (first | (go_at_call 29; (with_reducible refine (impl_TripleIs.calls k (wrap64 ((wrap64 (a0 * a0)) - (wrap64 (a1 * a1)))) (wrap64 ((wrap64 (2 * a0)) * a1)) (wrap64 ((wrap64 (a0 * a0)) + (wrap64 (a1 * a1)))) false _ A7.out).mono ?_); rintro e w10 ⟨rfl, hb⟩; have n0_ := Aside0.mk (below_step (by repeat (first | (with_reducible first | exact HB.out | apply below_alloc | apply pw_below_drewN | apply below_drew1) | exact HB.out | exact Below.refl _ _)) hb); try clear HB; have HB := n0_; clear n0_; (try clear hb); (try clear hb2); (try clear hk); (try clear hi)))
  refine bodyPost_ret (results_list (rs := [.tmp 4, .tmp 5, .tmp 6, .tmp 7]) rfl (by simp) (.tmp (.tmp (.tmp (.tmp .nil))))) rfl ?_
  exact ⟨by first | rfl | (simp [errW_none, errW_some] <;> rfl) | (simp [*, errW_none, errW_some] <;> rfl), by repeat (first | (with_reducible first | exact HB.out | apply below_alloc | apply pw_below_drewN | apply below_drew1) | exact HB.out | exact Below.refl _ _)⟩

/-! ### impl_squareRoot: function 48 -/
def impl_squareRoot.l0 : Nat → Int → Int → Int → Option (Int × Bool)
  | 0, _, _, _ => none
  | k + 1, x0, x4, x5 => if x5 > 0 then (if (wrap64 ((wrap64 (x4 + x5)) * (wrap64 (x4 + x5)))) ≤ x0 then (impl_squareRoot.l0 k x0 (wrap64 (x4 + x5)) (wrap64 (Int.tdiv x5 2))) else (impl_squareRoot.l0 k x0 x4 (wrap64 (Int.tdiv x5 2)))) else (some (x4, ((wrap64 (x4 * x4)) == x0)))
def impl_squareRoot.f (k : Nat) (a0 : Int) : Option (Int × Bool) := if a0 < 0 then (some (0, false)) else (impl_squareRoot.l0 k a0 0 1073741824)
theorem impl_squareRoot.mono_l : ∀ k, (∀ y0 y1 y2, LeO (impl_squareRoot.l0 k y0 y1 y2) (impl_squareRoot.l0 (k + 1) y0 y1 y2))
  | 0 => fun _ _ _ r h => by simp [impl_squareRoot.l0] at h
  | k + 1 => by
    have ih0 := impl_squareRoot.mono_l k
    · intro y0 y1 y2
      unfold impl_squareRoot.l0
      repeat' first
      | (with_reducible exact ih0 _ _ _)
      | (with_reducible exact LeO.refl _)
      | (with_reducible exact LeO.none _)
      | (with_reducible refine LeO.ite ?_ ?_)
      | (with_reducible refine LeO.bind ?_ (fun _ => ?_))
      | exact ih0 _ _ _
      | exact LeO.none _
      | refine LeO.ite ?_ ?_
      | refine LeO.bind ?_ (fun _ => ?_)
theorem impl_squareRoot.mono : ∀ a0 k, LeO (impl_squareRoot.f k a0) (impl_squareRoot.f (k + 1) a0) := by
  intro a0 k
  have ih0 := impl_squareRoot.mono_l k
  unfold impl_squareRoot.f
  repeat' first
      | (with_reducible exact ih0 _ _ _)
      | (with_reducible exact LeO.refl _)
      | (with_reducible exact LeO.none _)
      | (with_reducible refine LeO.ite ?_ ?_)
      | (with_reducible refine LeO.bind ?_ (fun _ => ?_))
      | exact ih0 _ _ _
      | exact LeO.none _
      | refine LeO.ite ?_ ?_
      | refine LeO.bind ?_ (fun _ => ?_)
set_option maxHeartbeats 8000000 in
set_option maxRecDepth 100000 in
theorem impl_squareRoot.calls (k : Nat) (a0 : Int) (r1 : Int) (r2 : Bool) (w : World) (h : impl_squareRoot.f k a0 = some (r1, r2)) :
    Calls Try.prog 48 #[.int .i64 a0] w fun e w' => e = .returned (.tuple #[.int .i64 r1, .bool r2]) ∧ Drawn0 w w' := by
  have H : (if a0 < 0 then (some (0, false)) else (impl_squareRoot.l0 k a0 0 1073741824)) = some (r1, r2) := h
  clear h
  by_cases c2 : a0 < 0
  · rw [if_pos c2] at H
    have c2b0 : decide (a0 < 0) = true := decide_eq_true c2
    clear c2
    simp only [Option.some.injEq, Prod.mk.injEq] at H
    obtain ⟨rfl, rfl⟩ := H
    go_enter Try.func48, Try.ntmps48
    go_wp2
    go_ret2
    exact ⟨by first | rfl | (simp; done) | (simp [*]; done), by repeat (first | exact Drawn0.refl _ | apply Drawn0.step)⟩
  rw [if_neg c2] at H
  have c2b0 : decide (a0 < 0) = false := decide_eq_false c2
  clear c2
  have H' := Aside0.mk H
  clear H
  go_enter Try.func48, Try.ntmps48
  go_wp2
  go_loopg [4, 5] k (fun kq v4 v5 w' => ∃ (x4_1 : Int) (x5_1 : Int), v4 = .int .i64 x4_1 ∧ v5 = .int .i64 x5_1 ∧ Aside0 (impl_squareRoot.l0 kq a0 x4_1 x5_1 = some (r1, r2)) ∧ Aside0 (kq ≤ k) ∧ Drawn0 w w')
  case atStart => exact ⟨(0), (1073741824), (by first | rfl | (simp; done) | (simp [*]; done)), (by first | rfl | (simp; done) | (simp [*]; done)), H', ⟨Nat.le_refl _⟩, by repeat (first | exact Drawn0.refl _ | apply Drawn0.step)⟩
  case round =>
    clear H'
    try clear c2
    try clear c2b0
    try clear p2
    obtain ⟨x4_1, x5_1, rfl, rfl, HA, HK1, ⟨m1, rfl⟩⟩ := hrel
    cases gk with
    | zero => exact absurd HA.out (by simp [impl_squareRoot.l0])
    | succ k1 =>
      have H := HA.out
      clear HA
      simp only [impl_squareRoot.l0] at H
      by_cases c3 : x5_1 > 0
      · rw [if_pos c3] at H
        have c3b0 : decide (0 < x5_1) = true := decide_eq_true c3
        clear c3
        by_cases c4 : (wrap64 ((wrap64 (x4_1 + x5_1)) * (wrap64 (x4_1 + x5_1)))) ≤ a0
        · rw [if_pos c4] at H
          have c4b0 : decide ((wrap64 ((wrap64 (x4_1 + x5_1)) * (wrap64 (x4_1 + x5_1)))) ≤ a0) = true := decide_eq_true c4
          clear c4
          have H' := Aside0.mk H
          clear H
          go_wp2
          go_roundg k1
          case measure => have := HK1.out; omega
          case rel => exact ⟨(wrap64 (x4_1 + x5_1)), (wrap64 (Int.tdiv x5_1 2)), (by first | rfl | (simp; done) | (simp [*]; done)), (by first | rfl | (simp; done) | (simp [*]; done)), H', ⟨by have := HK1.out; omega⟩, by repeat (first | exact Drawn0.refl _ | apply Drawn0.step)⟩
        rw [if_neg c4] at H
        have c4b0 : decide ((wrap64 ((wrap64 (x4_1 + x5_1)) * (wrap64 (x4_1 + x5_1)))) ≤ a0) = false := decide_eq_false c4
        clear c4
        have H' := Aside0.mk H
        clear H
        go_wp2
        go_roundg k1
        case measure => have := HK1.out; omega
        case rel => exact ⟨(x4_1), (wrap64 (Int.tdiv x5_1 2)), (by first | rfl | (simp; done) | (simp [*]; done)), (by first | rfl | (simp; done) | (simp [*]; done)), H', ⟨by have := HK1.out; omega⟩, by repeat (first | exact Drawn0.refl _ | apply Drawn0.step)⟩
      rw [if_neg c3] at H
      have c3b0 : decide (0 < x5_1) = false := decide_eq_false c3
      clear c3
      simp only [Option.some.injEq, Prod.mk.injEq] at H
      obtain ⟨rfl, rfl⟩ := H
      go_wp2
      go_ret2
      exact ⟨by first | rfl | (simp; done) | (simp [*]; done), by repeat (first | exact Drawn0.refl _ | apply Drawn0.step)⟩

/-! ### impl_TripleBack: function 26 -/
def impl_TripleBack.f (k : Nat) (a0 : Int) (a1 : Int) (a2 : Int) : Option (Int × Int × Bool) := (impl_TripleIs.f k a0 a1 a2).bind fun t112 => (if t112 = true then ((impl_squareRoot.f k (wrap64 (Int.tdiv (wrap64 (a0 + a2)) 2))).bind fun bt113 => ((impl_squareRoot.f k (wrap64 (Int.tdiv (wrap64 (a2 - a0)) 2))).bind fun bt115 => (some (bt113.1, bt115.1, true)))) else (some (0, 0, false)))
theorem impl_TripleBack.mono : ∀ a0 a1 a2 k, LeO (impl_TripleBack.f k a0 a1 a2) (impl_TripleBack.f (k + 1) a0 a1 a2) := by
  intro a0 a1 a2 k
  unfold impl_TripleBack.f
  repeat' first
      | (with_reducible exact impl_TripleIs.mono _ _ _ _)
      | (with_reducible exact impl_squareRoot.mono _ _)
      | (with_reducible exact LeO.refl _)
      | (with_reducible exact LeO.none _)
      | (with_reducible refine LeO.ite ?_ ?_)
      | (with_reducible refine LeO.bind ?_ (fun _ => ?_))
      | exact impl_TripleIs.mono _ _ _ _
      | exact impl_squareRoot.mono _ _
      | exact LeO.none _
      | refine LeO.ite ?_ ?_
      | refine LeO.bind ?_ (fun _ => ?_)
set_option maxHeartbeats 8000000 in
set_option maxRecDepth 100000 in
theorem impl_TripleBack.calls (k : Nat) (a0 : Int) (a1 : Int) (a2 : Int) (r1 : Int) (r2 : Int) (r3 : Bool) (w : World) (h : impl_TripleBack.f k a0 a1 a2 = some (r1, r2, r3)) :
    Calls Try.prog 26 #[.int .i64 a0, .int .i64 a1, .int .i64 a2] w fun e w' => e = .returned (.tuple #[.int .i64 r1, .int .i64 r2, .bool r3]) ∧ Below w.heap.size w w' := by
  have HB := Aside0.mk (Below.refl w.heap.size w)
  have H : ((impl_TripleIs.f k a0 a1 a2).bind fun t112 => (if t112 = true then ((impl_squareRoot.f k (wrap64 (Int.tdiv (wrap64 (a0 + a2)) 2))).bind fun bt113 => ((impl_squareRoot.f k (wrap64 (Int.tdiv (wrap64 (a2 - a0)) 2))).bind fun bt115 => (some (bt113.1, bt115.1, true)))) else (some (0, 0, false)))) = some (r1, r2, r3) := h
  clear h
  replace H := Option.bind_eq_some_iff.mp H
  obtain ⟨t112, A40, H⟩ := H
  replace H : (if t112 = true then ((impl_squareRoot.f k (wrap64 (Int.tdiv (wrap64 (a0 + a2)) 2))).bind fun bt113 => ((impl_squareRoot.f k (wrap64 (Int.tdiv (wrap64 (a2 - a0)) 2))).bind fun bt115 => (some (bt113.1, bt115.1, true)))) else (some (0, 0, false))) = some (r1, r2, r3) := H
  have A4 := Aside0.mk A40
  clear A40
  by_cases c5 : t112 = true
  · subst c5
    have H1 : ((impl_squareRoot.f k (wrap64 (Int.tdiv (wrap64 (a0 + a2)) 2))).bind fun bt113 => ((impl_squareRoot.f k (wrap64 (Int.tdiv (wrap64 (a2 - a0)) 2))).bind fun bt115 => (some (bt113.1, bt115.1, true)))) = some (r1, r2, r3) := by rw [if_pos rfl] at H; exact H
    clear H
    have H := H1
    clear H1
    replace H := Option.bind_eq_some_iff.mp H
    obtain ⟨⟨t113, t114⟩, A60, H⟩ := H
    replace H : ((impl_squareRoot.f k (wrap64 (Int.tdiv (wrap64 (a2 - a0)) 2))).bind fun bt115 => (some (t113, bt115.1, true))) = some (r1, r2, r3) := H
    have A6 := Aside0.mk A60
    clear A60
    replace H := Option.bind_eq_some_iff.mp H
    obtain ⟨⟨t115, t116⟩, A70, H⟩ := H
    replace H : (some (t113, t115, true)) = some (r1, r2, r3) := H
    have A7 := Aside0.mk A70
    clear A70
    simp only [Option.some.injEq, Prod.mk.injEq] at H
    obtain ⟨rfl, rfl, rfl⟩ := H
    go_enter Try.func26, Try.ntmps26
    go_wp2_with (first | ((with_reducible refine gate_callee (f := 29) rfl ?_); refine goesL_ (some 16) rfl rfl Try.func29 (by kernel_rfl) rfl #[.int .i64 a0, .int .i64 a1, .int .i64 a2] rfl (by (try simp only [List.map_toArray, List.map_cons, List.map_nil]); first | done | rfl | (simp only [List.length_drop, List.length_take]; rfl)) ?_; (with_reducible refine (impl_TripleIs.calls k a0 a1 a2 true _ A4.out).mono ?_); rintro e w8 ⟨rfl, hb⟩; refine ⟨_, rfl, ?_⟩; have n0_ := Aside0.mk (below_step (by repeat (first | (with_reducible first | exact HB.out | apply below_alloc | apply pw_below_drewN | apply below_drew1) | exact HB.out | exact Below.refl _ _)) hb); try clear HB; have HB := n0_; clear n0_; (try clear hb); (try clear hb2); (try clear hk); (try clear hi)) | ((with_reducible refine gate_callee (f := 48) rfl ?_); refine goesL_ (some 23) rfl rfl Try.func48 (by kernel_rfl) rfl #[.int .i64 (wrap64 (Int.tdiv (wrap64 (a0 + a2)) 2))] rfl (by (try simp only [List.map_toArray, List.map_cons, List.map_nil]); first | done | rfl | (simp only [List.length_drop, List.length_take]; rfl)) ?_; (with_reducible refine (impl_squareRoot.calls k (wrap64 (Int.tdiv (wrap64 (a0 + a2)) 2)) t113 t114 _ A6.out).mono ?_); rintro e w' ⟨rfl, ⟨nd, rfl⟩⟩; refine ⟨_, rfl, ?_⟩) | ((with_reducible refine gate_callee (f := 48) rfl ?_); refine goesL_ (some 31) rfl rfl Try.func48 (by kernel_rfl) rfl #[.int .i64 (wrap64 (Int.tdiv (wrap64 (a2 - a0)) 2))] rfl (by (try simp only [List.map_toArray, List.map_cons, List.map_nil]); first | done | rfl | (simp only [List.length_drop, List.length_take]; rfl)) ?_; (with_reducible refine (impl_squareRoot.calls k (wrap64 (Int.tdiv (wrap64 (a2 - a0)) 2)) t115 t116 _ A7.out).mono ?_); rintro e w' ⟨rfl, ⟨nd, rfl⟩⟩; refine ⟨_, rfl, ?_⟩))
    go_ret3
    exact ⟨by first | rfl | (simp [errW_none, errW_some] <;> rfl) | (simp [*, errW_none, errW_some] <;> rfl), by repeat (first | (with_reducible first | exact HB.out | apply below_alloc | apply pw_below_drewN | apply below_drew1) | exact HB.out | exact Below.refl _ _)⟩
  replace c5 := Bool.eq_false_iff.mpr c5
  subst c5
  have H1 : (some (0, 0, false)) = some (r1, r2, r3) := by rw [if_neg (show ¬ (false = true) by decide)] at H; exact H
  clear H
  have H := H1
  clear H1
  simp only [Option.some.injEq, Prod.mk.injEq] at H
  obtain ⟨rfl, rfl, rfl⟩ := H
  go_enter Try.func26, Try.ntmps26
  go_wp2_with (first | ((with_reducible refine gate_callee (f := 29) rfl ?_); refine goesL_ (some 16) rfl rfl Try.func29 (by kernel_rfl) rfl #[.int .i64 a0, .int .i64 a1, .int .i64 a2] rfl (by (try simp only [List.map_toArray, List.map_cons, List.map_nil]); first | done | rfl | (simp only [List.length_drop, List.length_take]; rfl)) ?_; (with_reducible refine (impl_TripleIs.calls k a0 a1 a2 false _ A4.out).mono ?_); rintro e w9 ⟨rfl, hb⟩; refine ⟨_, rfl, ?_⟩; have n0_ := Aside0.mk (below_step (by repeat (first | (with_reducible first | exact HB.out | apply below_alloc | apply pw_below_drewN | apply below_drew1) | exact HB.out | exact Below.refl _ _)) hb); try clear HB; have HB := n0_; clear n0_; (try clear hb); (try clear hb2); (try clear hk); (try clear hi)))
  go_ret3
  exact ⟨by first | rfl | (simp [errW_none, errW_some] <;> rfl) | (simp [*, errW_none, errW_some] <;> rfl), by repeat (first | (with_reducible first | exact HB.out | apply below_alloc | apply pw_below_drewN | apply below_drew1) | exact HB.out | exact Below.refl _ _)⟩

/-! ### impl_TripleParent: function 33 -/
/-- The three candidates in order; the first that TripleMake takes. -/
def impl_TripleParent.f (k : Nat) (a0 a1 a2 : Int) : Option (Int × Int × Int × Int × Bool) := (impl_TripleBack.f k a0 a1 a2).bind fun b =>
  if b.2.2 = true then
    ((impl_TripleMake.f k b.2.1 (wrap64 (wrap64 (2 * b.2.1) - b.1))).bind fun x => if x.2.2.2 = true then some (x.1, x.2.1, x.2.2.1, 0, true) else
      ((impl_TripleMake.f k b.2.1 (wrap64 (b.1 - wrap64 (2 * b.2.1)))).bind fun y => if y.2.2.2 = true then some (y.1, y.2.1, y.2.2.1, 1, true) else
        ((impl_TripleMake.f k (wrap64 (b.1 - wrap64 (2 * b.2.1))) b.2.1).bind fun z => if z.2.2.2 = true then some (z.1, z.2.1, z.2.2.1, 2, true) else some (0, 0, 0, 0, false))))
  else some (0, 0, 0, 0, false)
theorem impl_TripleParent.mono : ∀ a0 a1 a2 k, LeO (impl_TripleParent.f k a0 a1 a2) (impl_TripleParent.f (k + 1) a0 a1 a2) := by
  intro a0 a1 a2 k
  unfold impl_TripleParent.f
  refine LeO.bind (impl_TripleBack.mono _ _ _ _) (fun b => LeO.ite ?_ (LeO.refl _))
  refine LeO.bind (impl_TripleMake.mono _ _ _) (fun x => LeO.ite (LeO.refl _) ?_)
  refine LeO.bind (impl_TripleMake.mono _ _ _) (fun y => LeO.ite (LeO.refl _) ?_)
  exact LeO.bind (impl_TripleMake.mono _ _ _) (fun z => LeO.refl _)
theorem tpcell {W w1 : World} (hb : Below W.heap.size W w1) : (∀ b o, b < W.heap.size → w1.cell? ⟨b, o, none⟩ = W.cell? ⟨b, o, none⟩) ∧ (∀ b o, b < W.heap.size → w1.frozen? ⟨b, o, none⟩ = W.frozen? ⟨b, o, none⟩) :=
  ⟨fun b o h => hb.cell (p := ⟨b, o, none⟩) h, fun b o h => hb.frozen (p := ⟨b, o, none⟩) h⟩
set_option maxHeartbeats 4000000 in
set_option maxRecDepth 100000 in
theorem impl_TripleParent.yes (k : Nat) (a0 a1 a2 m n : Int) (t1 t2 t3 u1 u2 u3 v1 v2 v3 : Int) (x y z : Bool) (w : World) (hb : impl_TripleBack.f k a0 a1 a2 = some (m, n, true))
    (h1 : impl_TripleMake.f k n (wrap64 (wrap64 (2 * n) - m)) = some (t1, t2, t3, x))
    (h2 : x = false → impl_TripleMake.f k n (wrap64 (m - wrap64 (2 * n))) = some (u1, u2, u3, y))
    (h3 : x = false → y = false → impl_TripleMake.f k (wrap64 (m - wrap64 (2 * n))) n = some (v1, v2, v3, z)) :
    Calls Try.prog 33 #[.int .i64 a0, .int .i64 a1, .int .i64 a2] w fun e w' =>
      e = .returned (if x = true then .tuple #[.int .i64 t1, .int .i64 t2, .int .i64 t3, .int .i64 0, .bool true] else if y = true then .tuple #[.int .i64 u1, .int .i64 u2, .int .i64 u3, .int .i64 1, .bool true]
        else if z = true then .tuple #[.int .i64 v1, .int .i64 v2, .int .i64 v3, .int .i64 2, .bool true] else .tuple #[.int .i64 0, .int .i64 0, .int .i64 0, .int .i64 0, .bool false]) ∧ Below w.heap.size w w' := by
  have B := Aside0.mk hb
  have M1 := Aside0.mk h1
  have M2 := Aside0.mk h2
  have M3 := Aside0.mk h3
  clear hb h1 h2 h3
  cases x with
  | true =>
    go_enter Try.func33, Try.ntmps33
    go_wp2_with (first | (go_at_call 26; (with_reducible refine (impl_TripleBack.calls k a0 a1 a2 m n true _ B.out).mono ?_); rintro e w1 ⟨rfl, hb0⟩))
    have HB := Aside0.mk hb0
    clear hb0
    refine wp_loop_rounds 4 ?_
    rw [rounds_succ]
    go_wp2_with (first | (go_at_call 16; (with_reducible refine (impl_TripleMake.calls k _ _ t1 t2 t3 true _ M1.out).mono ?_); rintro e w2 ⟨rfl, hbx⟩; obtain ⟨hc_w2, hf_w2⟩ := tpcell hbx; have hz_w2 : w1.heap.size < w2.heap.size := (by have := hbx.size; simp at this; omega); have hy_w2 := Nat.le_of_lt hz_w2; have hx_w2 := Nat.lt_succ_of_lt hz_w2; have HB1 := Aside0.mk (below_step (by repeat (first | (with_reducible first | exact HB.out | apply below_alloc | apply pw_below_drewN | apply below_drew1 | refine Below.setCell ?_ (by have := HB.out.size; simp; omega) _) | exact HB.out)) hbx); clear hbx))
    refine bodyPost_ret (results_list (rs := [.tmp 6, .tmp 7, .tmp 8, .tmp 9, .tmp 10]) rfl (by simp) (.tmp (.tmp (.tmp (.tmp (.tmp .nil)))))) rfl ?_
    exact ⟨rfl, HB1.out⟩
  | false =>
    have N2 := Aside0.mk (M2.out rfl)
    clear M2
    cases y with
    | true =>
      go_enter Try.func33, Try.ntmps33
      go_wp2_with (first | (go_at_call 26; (with_reducible refine (impl_TripleBack.calls k a0 a1 a2 m n true _ B.out).mono ?_); rintro e w1 ⟨rfl, hb0⟩))
      have HB := Aside0.mk hb0
      clear hb0
      refine wp_loop_rounds 4 ?_
      rw [rounds_succ]
      go_wp2_with (first | (go_at_call 16; (with_reducible refine (impl_TripleMake.calls k _ _ t1 t2 t3 false _ M1.out).mono ?_); rintro e w2 ⟨rfl, hbx⟩; obtain ⟨hc_w2, hf_w2⟩ := tpcell hbx; have hz_w2 : w1.heap.size < w2.heap.size := (by have := hbx.size; simp at this; omega); have hy_w2 := Nat.le_of_lt hz_w2; have hx_w2 := Nat.lt_succ_of_lt hz_w2; have HB1 := Aside0.mk (below_step (by repeat (first | (with_reducible first | exact HB.out | apply below_alloc | apply pw_below_drewN | apply below_drew1 | refine Below.setCell ?_ (by have := HB.out.size; simp; omega) _) | exact HB.out)) hbx); clear hbx))
      rw [rounds_succ]
      go_wp2_with (first | (go_at_call 16; (with_reducible refine (impl_TripleMake.calls k _ _ u1 u2 u3 true _ N2.out).mono ?_); rintro e w3 ⟨rfl, hbx⟩; obtain ⟨hc_w3, hf_w3⟩ := tpcell hbx; have hz_w3 : w1.heap.size < w3.heap.size := (by have := hbx.size; simp at this; omega); have hy_w3 := Nat.le_of_lt hz_w3; have hx_w3 := Nat.lt_succ_of_lt hz_w3; have HB2 := Aside0.mk (below_step (by repeat (first | (with_reducible first | exact HB1.out | apply below_alloc | apply pw_below_drewN | apply below_drew1 | refine Below.setCell ?_ (by have := HB.out.size; simp; omega) _) | exact HB1.out)) hbx); clear hbx))
      refine bodyPost_ret (results_list (rs := [.tmp 6, .tmp 7, .tmp 8, .tmp 9, .tmp 10]) rfl (by simp) (.tmp (.tmp (.tmp (.tmp (.tmp .nil)))))) rfl ?_
      exact ⟨rfl, HB2.out⟩
    | false =>
      have N3 := Aside0.mk (M3.out rfl rfl)
      clear M3
      cases z with
      | true =>
        go_enter Try.func33, Try.ntmps33
        go_wp2_with (first | (go_at_call 26; (with_reducible refine (impl_TripleBack.calls k a0 a1 a2 m n true _ B.out).mono ?_); rintro e w1 ⟨rfl, hb0⟩))
        have HB := Aside0.mk hb0
        clear hb0
        refine wp_loop_rounds 4 ?_
        rw [rounds_succ]
        go_wp2_with (first | (go_at_call 16; (with_reducible refine (impl_TripleMake.calls k _ _ t1 t2 t3 false _ M1.out).mono ?_); rintro e w2 ⟨rfl, hbx⟩; obtain ⟨hc_w2, hf_w2⟩ := tpcell hbx; have hz_w2 : w1.heap.size < w2.heap.size := (by have := hbx.size; simp at this; omega); have hy_w2 := Nat.le_of_lt hz_w2; have hx_w2 := Nat.lt_succ_of_lt hz_w2; have HB1 := Aside0.mk (below_step (by repeat (first | (with_reducible first | exact HB.out | apply below_alloc | apply pw_below_drewN | apply below_drew1 | refine Below.setCell ?_ (by have := HB.out.size; simp; omega) _) | exact HB.out)) hbx); clear hbx))
        rw [rounds_succ]
        go_wp2_with (first | (go_at_call 16; (with_reducible refine (impl_TripleMake.calls k _ _ u1 u2 u3 false _ N2.out).mono ?_); rintro e w3 ⟨rfl, hbx⟩; obtain ⟨hc_w3, hf_w3⟩ := tpcell hbx; have hz_w3 : w1.heap.size < w3.heap.size := (by have := hbx.size; simp at this; omega); have hy_w3 := Nat.le_of_lt hz_w3; have hx_w3 := Nat.lt_succ_of_lt hz_w3; have HB2 := Aside0.mk (below_step (by repeat (first | (with_reducible first | exact HB1.out | apply below_alloc | apply pw_below_drewN | apply below_drew1 | refine Below.setCell ?_ (by have := HB.out.size; simp; omega) _) | exact HB1.out)) hbx); clear hbx))
        rw [rounds_succ]
        go_wp2_with (first | (go_at_call 16; (with_reducible refine (impl_TripleMake.calls k _ _ v1 v2 v3 true _ N3.out).mono ?_); rintro e w4 ⟨rfl, hbx⟩; obtain ⟨hc_w4, hf_w4⟩ := tpcell hbx; have HB3 := Aside0.mk (below_step (by repeat (first | (with_reducible first | exact HB2.out | apply below_alloc | apply pw_below_drewN | apply below_drew1 | refine Below.setCell ?_ (by have := HB.out.size; simp; omega) _) | exact HB2.out)) hbx); clear hbx))
        refine bodyPost_ret (results_list (rs := [.tmp 6, .tmp 7, .tmp 8, .tmp 9, .tmp 10]) rfl (by simp) (.tmp (.tmp (.tmp (.tmp (.tmp .nil)))))) rfl ?_
        exact ⟨rfl, HB3.out⟩
      | false =>
        go_enter Try.func33, Try.ntmps33
        go_wp2_with (first | (go_at_call 26; (with_reducible refine (impl_TripleBack.calls k a0 a1 a2 m n true _ B.out).mono ?_); rintro e w1 ⟨rfl, hb0⟩))
        have HB := Aside0.mk hb0
        clear hb0
        refine wp_loop_rounds 4 ?_
        rw [rounds_succ]
        go_wp2_with (first | (go_at_call 16; (with_reducible refine (impl_TripleMake.calls k _ _ t1 t2 t3 false _ M1.out).mono ?_); rintro e w2 ⟨rfl, hbx⟩; obtain ⟨hc_w2, hf_w2⟩ := tpcell hbx; have hz_w2 : w1.heap.size < w2.heap.size := (by have := hbx.size; simp at this; omega); have hy_w2 := Nat.le_of_lt hz_w2; have hx_w2 := Nat.lt_succ_of_lt hz_w2; have HB1 := Aside0.mk (below_step (by repeat (first | (with_reducible first | exact HB.out | apply below_alloc | apply pw_below_drewN | apply below_drew1 | refine Below.setCell ?_ (by have := HB.out.size; simp; omega) _) | exact HB.out)) hbx); clear hbx))
        rw [rounds_succ]
        go_wp2_with (first | (go_at_call 16; (with_reducible refine (impl_TripleMake.calls k _ _ u1 u2 u3 false _ N2.out).mono ?_); rintro e w3 ⟨rfl, hbx⟩; obtain ⟨hc_w3, hf_w3⟩ := tpcell hbx; have hz_w3 : w1.heap.size < w3.heap.size := (by have := hbx.size; simp at this; omega); have hy_w3 := Nat.le_of_lt hz_w3; have hx_w3 := Nat.lt_succ_of_lt hz_w3; have HB2 := Aside0.mk (below_step (by repeat (first | (with_reducible first | exact HB1.out | apply below_alloc | apply pw_below_drewN | apply below_drew1 | refine Below.setCell ?_ (by have := HB.out.size; simp; omega) _) | exact HB1.out)) hbx); clear hbx))
        rw [rounds_succ]
        go_wp2_with (first | (go_at_call 16; (with_reducible refine (impl_TripleMake.calls k _ _ v1 v2 v3 false _ N3.out).mono ?_); rintro e w4 ⟨rfl, hbx⟩; obtain ⟨hc_w4, hf_w4⟩ := tpcell hbx; have HB3 := Aside0.mk (below_step (by repeat (first | (with_reducible first | exact HB2.out | apply below_alloc | apply pw_below_drewN | apply below_drew1 | refine Below.setCell ?_ (by have := HB.out.size; simp; omega) _) | exact HB2.out)) hbx); clear hbx))
        rw [rounds_succ]
        go_wp2
        refine bodyPost_ret (results_list (rs := [.tmp 6, .tmp 7, .tmp 8, .tmp 9, .tmp 10]) rfl (by simp) (.tmp (.tmp (.tmp (.tmp (.tmp .nil)))))) rfl ?_
        exact ⟨rfl, HB3.out⟩
set_option maxHeartbeats 4000000 in
set_option maxRecDepth 100000 in
theorem impl_TripleParent.no (k : Nat) (a0 a1 a2 m n : Int) (w : World) (hb : impl_TripleBack.f k a0 a1 a2 = some (m, n, false)) :
    Calls Try.prog 33 #[.int .i64 a0, .int .i64 a1, .int .i64 a2] w fun e w' => e = .returned (.tuple #[.int .i64 0, .int .i64 0, .int .i64 0, .int .i64 0, .bool false]) ∧ Below w.heap.size w w' := by
  have B := Aside0.mk hb
  clear hb
  go_enter Try.func33, Try.ntmps33
  go_wp2_with (first | (go_at_call 26; (with_reducible refine (impl_TripleBack.calls k a0 a1 a2 m n false _ B.out).mono ?_); rintro e w1 ⟨rfl, hb0⟩))
  refine bodyPost_ret (results_list (rs := [.tmp 6, .tmp 7, .tmp 8, .tmp 9, .tmp 10]) rfl (by simp) (.tmp (.tmp (.tmp (.tmp (.tmp .nil)))))) rfl ?_
  exact ⟨rfl, hb0⟩
theorem impl_TripleParent.calls (k : Nat) (a0 : Int) (a1 : Int) (a2 : Int) (r1 : Int) (r2 : Int) (r3 : Int) (r4 : Int) (r5 : Bool) (w : World) (h : impl_TripleParent.f k a0 a1 a2 = some (r1, r2, r3, r4, r5)) :
    Calls Try.prog 33 #[.int .i64 a0, .int .i64 a1, .int .i64 a2] w fun e w' => e = .returned (.tuple #[.int .i64 r1, .int .i64 r2, .int .i64 r3, .int .i64 r4, .bool r5]) ∧ Below w.heap.size w w' := by
  unfold impl_TripleParent.f at h
  obtain ⟨⟨m, n, b⟩, hb, h⟩ := Option.bind_eq_some_iff.1 h
  cases b with
  | false =>
    simp only [Bool.false_eq_true, if_false, Option.some.injEq, Prod.mk.injEq] at h
    obtain ⟨rfl, rfl, rfl, rfl, rfl⟩ := h
    exact impl_TripleParent.no k a0 a1 a2 m n w hb
  | true =>
    simp only [if_true] at h
    obtain ⟨⟨t1, t2, t3, x⟩, h1, h⟩ := Option.bind_eq_some_iff.1 h
    cases x with
    | true =>
      simp only [if_true, Option.some.injEq, Prod.mk.injEq] at h
      obtain ⟨rfl, rfl, rfl, rfl, rfl⟩ := h
      exact impl_TripleParent.yes k a0 a1 a2 m n t1 t2 t3 0 0 0 0 0 0 true true true w hb h1 (fun h => by cases h) (fun h => by cases h)
    | false =>
      simp only [Bool.false_eq_true, if_false] at h
      obtain ⟨⟨u1, u2, u3, y⟩, h2, h⟩ := Option.bind_eq_some_iff.1 h
      cases y with
      | true =>
        simp only [if_true, Option.some.injEq, Prod.mk.injEq] at h
        obtain ⟨rfl, rfl, rfl, rfl, rfl⟩ := h
        exact impl_TripleParent.yes k a0 a1 a2 m n t1 t2 t3 u1 u2 u3 0 0 0 false true true w hb h1 (fun _ => h2) (fun _ h => by cases h)
      | false =>
        simp only [Bool.false_eq_true, if_false] at h
        obtain ⟨⟨v1, v2, v3, z⟩, h3, h⟩ := Option.bind_eq_some_iff.1 h
        have key := impl_TripleParent.yes k a0 a1 a2 m n t1 t2 t3 u1 u2 u3 v1 v2 v3 false false z w hb h1 (fun _ => h2) (fun _ _ => h3)
        cases z with
        | true =>
          simp only [if_true, Option.some.injEq, Prod.mk.injEq] at h
          obtain ⟨rfl, rfl, rfl, rfl, rfl⟩ := h
          exact key
        | false =>
          simp only [Bool.false_eq_true, if_false, Option.some.injEq, Prod.mk.injEq] at h
          obtain ⟨rfl, rfl, rfl, rfl, rfl⟩ := h
          exact key

/-! ### spec_l6In: function 42 -/
def spec_l6In.f (a0 : Int) (a1 : Int) (a2 : Int) : Option (Bool) := if a0 ≥ a1 then (some (decide (a0 ≤ a2))) else (some false)
set_option maxHeartbeats 8000000 in
set_option maxRecDepth 100000 in
theorem spec_l6In.calls (a0 : Int) (a1 : Int) (a2 : Int) (r : Bool) (w : World) (h : spec_l6In.f a0 a1 a2 = some r) :
    Calls Try.prog 42 #[.int .i64 a0, .int .i64 a1, .int .i64 a2] w fun e w' => e = .returned (.bool r) ∧ Drawn0 w w' := by
  have H : (if a0 ≥ a1 then (some (decide (a0 ≤ a2))) else (some false)) = some r := h
  clear h
  by_cases c4 : a0 ≥ a1
  · rw [if_pos c4] at H
    have c4b0 : decide (a1 ≤ a0) = true := decide_eq_true c4
    clear c4
    obtain rfl := Option.some.inj H
    go_enter Try.func42, Try.ntmps42
    go_wp2
    go_ret
    exact ⟨by first | rfl | (simp; done) | (simp [*]; done), by repeat (first | exact Drawn0.refl _ | apply Drawn0.step)⟩
  rw [if_neg c4] at H
  have c4b0 : decide (a1 ≤ a0) = false := decide_eq_false c4
  clear c4
  obtain rfl := Option.some.inj H
  go_enter Try.func42, Try.ntmps42
  go_wp2
  go_ret
  exact ⟨by first | rfl | (simp; done) | (simp [*]; done), by repeat (first | exact Drawn0.refl _ | apply Drawn0.step)⟩

/-! ### spec_l1Size: function 58 -/
def spec_l1Size.f (a0 : Int) : Option (Int) := some (mx a0 (wrap64 (-a0)))
set_option maxHeartbeats 8000000 in
set_option maxRecDepth 100000 in
theorem spec_l1Size.calls (a0 : Int) (r : Int) (w : World) (h : spec_l1Size.f a0 = some r) :
    Calls Try.prog 58 #[.int .i64 a0] w fun e w' => e = .returned (.int .i64 r) ∧ Below w.heap.size w w' := by
  have HB := Aside0.mk (Below.refl w.heap.size w)
  have H : (some (mx a0 (wrap64 (-a0)))) = some r := h
  clear h
  obtain ⟨ji2, hji2⟩ : ∃ j_ : Int, (mx a0 (wrap64 (-a0))) = j_ := ⟨_, rfl⟩
  replace H : (some ji2) = some r := by first | (rw [hji2] at H; exact H) | (simp only [hji2] at H ⊢; exact H)
  have hji2_ : (if a0 < (wrap64 (-a0)) then (wrap64 (-a0)) else a0) = ji2 := hji2
  obtain rfl := Option.some.inj H
  go_enter Try.func58, Try.ntmps58
  go_wp2
  go_ret
  exact ⟨by first | rfl | (simp [errW_none, errW_some] <;> rfl) | (simp only [← hji2]; first | rfl | (simp [errW_none, errW_some] <;> rfl)) | (simp [*, errW_none, errW_some] <;> rfl), by repeat (first | (with_reducible first | exact HB.out | apply below_alloc | apply pw_below_drewN | apply below_drew1) | exact HB.out | exact Below.refl _ _)⟩

end Go.Proofs.Ytpmhninmblgjoaa.PFnDepth
