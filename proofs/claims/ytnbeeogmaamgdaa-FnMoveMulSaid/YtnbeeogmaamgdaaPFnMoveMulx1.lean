-- Written by a program of this session (wip/print2.py): the functions that the law reaches, plain, and the walks.
import Derived.Test.YtnbeeogmaamgdaaPFnMoveMulx0
namespace Go.Proofs.Ytnbeeogmaamgdaa.PFnMoveMul
open Go.RowKit Go.Proofs.YtnbeeogmaamgdaaW.PrintWords Go.Proofs.YtnbeeogmaamgdaaW.PrintLast Go.Proofs.YtnbeeogmaamgdaaW.PrintMore
attribute [local go_sem] max2_int min2_int max_two min_two max_three min_three max_four min_four   -- for this text's walks alone
set_option linter.unusedVariables false
set_option linter.unusedSimpArgs false

/-! ### laws_sameInts: function 25 -/
def laws_sameInts.l0 : Nat → List Int → List Int → Int → Option (Bool)
  | 0, _, _, _ => none
  | k + 1, x0, x1, x5 => if x5 < (x0.length : Int) then (if 0 ≤ x5 then (if x5 < (x1.length : Int) then (if (rd x0 x5) = (rd x1 x5) then (laws_sameInts.l0 k x0 x1 (wrap64 (x5 + 1))) else (some false)) else (none)) else (none)) else (some true)
def laws_sameInts.f (k : Nat) (l0 : List Int) (l1 : List Int) : Option (Bool) := if (l0.length : Int) = (l1.length : Int) then (laws_sameInts.l0 k l0 l1 0) else (some false)
theorem laws_sameInts.mono_l : ∀ k, (∀ y0 y1 y2, LeO (laws_sameInts.l0 k y0 y1 y2) (laws_sameInts.l0 (k + 1) y0 y1 y2))
  | 0 => fun _ _ _ r h => by simp [laws_sameInts.l0] at h
  | k + 1 => by
    have ih0 := laws_sameInts.mono_l k
    · intro y0 y1 y2
      unfold laws_sameInts.l0
      repeat' first
      | (with_reducible exact ih0 _ _ _)
      | (with_reducible exact LeO.refl _)
      | (with_reducible exact LeO.none _)
      | (with_reducible refine LeO.ite ?_ ?_)
      | (with_reducible refine LeO.bind ?_ (fun _ => ?_))
      | exact ih0 _ _ _
      | exact LeO.none _
      | refine LeO.ite ?_ ?_
      | refine LeO.bind ?_ (fun _ => ?_)
theorem laws_sameInts.mono : ∀ a0 a1 k, LeO (laws_sameInts.f k a0 a1) (laws_sameInts.f (k + 1) a0 a1) := by
  intro a0 a1 k
  have ih0 := laws_sameInts.mono_l k
  unfold laws_sameInts.f
  repeat' first
      | (with_reducible exact ih0 _ _ _)
      | (with_reducible exact LeO.refl _)
      | (with_reducible exact LeO.none _)
      | (with_reducible refine LeO.ite ?_ ?_)
      | (with_reducible refine LeO.bind ?_ (fun _ => ?_))
      | exact ih0 _ _ _
      | exact LeO.none _
      | refine LeO.ite ?_ ?_
      | refine LeO.bind ?_ (fun _ => ?_)
set_option maxHeartbeats 8000000 in
set_option maxRecDepth 100000 in
theorem laws_sameInts.calls (k : Nat) (A0 : Option Addr) (c0 : Nat) (l0 : List Int) (A1 : Option Addr) (c1 : Nat) (l1 : List Int) (r : Bool) (w : World) (hr0 : Kd.C (Kd.int .i64) w A0 l0.length l0) (hc0 : l0.length ≤ c0) (hr1 : Kd.C (Kd.int .i64) w A1 l1.length l1) (hc1 : l1.length ≤ c1) (h : laws_sameInts.f k l0 l1 = some r) :
    Calls Try.prog 25 #[.slice A0 l0.length c0, .slice A1 l1.length c1] w fun e w' => e = .returned (.bool r) ∧ Drawn0 w w' := by
  have HR0 := Aside0.mk hr0; have HC0 := Aside0.mk hc0; clear hr0 hc0; have HR1 := Aside0.mk hr1; have HC1 := Aside0.mk hc1; clear hr1 hc1; unfold laws_sameInts.f at h; have H := h; clear h
  by_cases c3 : (l0.length : Int) = (l1.length : Int)
  · rw [if_pos c3] at H
    have c3b0 : ((l0.length : Int) == (l1.length : Int)) = true := beq_iff_eq.mpr c3; have c3b1 : ((l0.length : Int) != (l1.length : Int)) = false := bne_eq_false_iff_eq.mpr c3
    have c3b2 : (l0.length == l1.length) = true := by first | simpa using c3 | (simp at c3 ⊢; omega)
    clear c3; have H' := Aside0.mk H; clear H; go_enter Try.func25, Try.ntmps25
    go_wp2
    repeat (go_quiet (fail); try go_wp2)
    go_loopg [5] k (fun kq v5 w' => ∃ (x5_1 : Int), v5 = .int .i64 x5_1 ∧ Aside0 (laws_sameInts.l0 kq l0 l1 x5_1 = some r) ∧ Aside0 (kq ≤ k) ∧ Drawn0 w w')
    case atStart => exact ⟨(0), sR, H', ⟨Nat.le_refl _⟩, by repeat (first | exact Drawn0.refl _ | apply Drawn0.step)⟩
    case round =>
      clear H'; (try clear c3); (try clear c3b0); (try clear c3b1); (try clear c3b2); obtain ⟨x5_1, rfl, HA, HK1, ⟨m1, rfl⟩⟩ := hrel; cases gk with
      | zero => exact absurd HA.out (by simp [laws_sameInts.l0])
      | succ k1 =>
        have H := HA.out; clear HA; simp only [laws_sameInts.l0] at H
        by_cases c4 : x5_1 < (l0.length : Int)
        · rw [if_pos c4] at H
          have c4b0 : decide (x5_1 < (l0.length : Int)) = true := decide_eq_true c4; clear c4; obtain ⟨c5, H⟩ := ifN H; have c5b0 : decide (0 ≤ x5_1) = true := decide_eq_true c5; clear c5; obtain ⟨c6, H⟩ := ifN H; have c6b0 : decide (x5_1 < (l1.length : Int)) = true := decide_eq_true c6; clear c6
          by_cases c7 : (rd l0 x5_1) = (rd l1 x5_1)
          · rw [if_pos c7] at H
            have c7b0 : ((rd l0 x5_1) == (rd l1 x5_1)) = true := beq_iff_eq.mpr c7; have c7b1 : ((rd l0 x5_1) != (rd l1 x5_1)) = false := bne_eq_false_iff_eq.mpr c7; clear c7; have H' := Aside0.mk H; clear H; have p101 : 0 ≤ (x5_1 : Int) := oD; have q101 : x5_1 < (l0.length : Int) := oD; obtain ⟨ad101, e101, hx101_0⟩ := Kd.at_int HR0.out x5_1 p101 q101; cases e101; replace p101 := eq_true p101; replace q101 := eq_true q101; have p102 : 0 ≤ (x5_1 : Int) := oD; have q102 : x5_1 < (l1.length : Int) := oD; obtain ⟨ad102, e102, hx102_0⟩ := Kd.at_int HR1.out x5_1 p102 q102; cases e102; replace p102 := eq_true p102; replace q102 := eq_true q102
            go_wp2
            repeat (go_quiet (fail); try go_wp2)
            go_roundg k1
            case measure => have := HK1.out; omega
            case rel => exact ⟨(wrap64 (x5_1 + 1)), sR, H', ⟨by have := HK1.out; omega⟩, by repeat (first | exact Drawn0.refl _ | apply Drawn0.step)⟩
          rw [if_neg c7] at H; have c7b0 : ((rd l0 x5_1) == (rd l1 x5_1)) = false := beq_eq_false_iff_ne.mpr c7; have c7b1 : ((rd l0 x5_1) != (rd l1 x5_1)) = true := bne_iff_ne.mpr c7; obtain rfl := Option.some.inj H; have p101 : 0 ≤ (x5_1 : Int) := oD; have q101 : x5_1 < (l0.length : Int) := oD; obtain ⟨ad101, e101, hx101_0⟩ := Kd.at_int HR0.out x5_1 p101 q101; cases e101; replace p101 := eq_true p101; replace q101 := eq_true q101; have p102 : 0 ≤ (x5_1 : Int) := oD; have q102 : x5_1 < (l1.length : Int) := oD; obtain ⟨ad102, e102, hx102_0⟩ := Kd.at_int HR1.out x5_1 p102 q102; cases e102; replace p102 := eq_true p102; replace q102 := eq_true q102
          go_wp2
          repeat (go_quiet (fail); try go_wp2)
          go_ret
          exact ⟨by first | rfl | (simp; done) | (simp [*]; done), by repeat (first | exact Drawn0.refl _ | apply Drawn0.step)⟩
        rw [if_neg c4] at H; have c4b0 : decide (x5_1 < (l0.length : Int)) = false := decide_eq_false c4; clear c4; obtain rfl := Option.some.inj H
        go_wp2
        repeat (go_quiet (fail); try go_wp2)
        go_ret
        exact ⟨by first | rfl | (simp; done) | (simp [*]; done), by repeat (first | exact Drawn0.refl _ | apply Drawn0.step)⟩
  rw [if_neg c3] at H; have c3b0 : ((l0.length : Int) == (l1.length : Int)) = false := beq_eq_false_iff_ne.mpr c3; have c3b1 : ((l0.length : Int) != (l1.length : Int)) = true := bne_iff_ne.mpr c3
  have c3b2 : (l0.length == l1.length) = false := by first | simpa using c3 | (simp at c3 ⊢; omega)
  obtain rfl := Option.some.inj H; go_enter Try.func25, Try.ntmps25
  go_wp2
  repeat (go_quiet (fail); try go_wp2)
  go_ret
  exact ⟨by first | rfl | (simp; done) | (simp [*]; done), by repeat (first | exact Drawn0.refl _ | apply Drawn0.step)⟩

/-! ### laws_sameLists: function 30 -/
def laws_sameLists.l0 : Nat → List (List Int) → List (List Int) → Int → Option (Bool)
  | 0, _, _, _ => none
  | k + 1, x0, x1, x5 => if x5 < (x0.length : Int) then (if 0 ≤ x5 then (if x5 < (x1.length : Int) then ((laws_sameInts.f k (rd_L1 x0 x5) (rd_L1 x1 x5)).bind fun t105 => (if t105 = true then (laws_sameLists.l0 k x0 x1 (wrap64 (x5 + 1))) else (some false))) else (none)) else (none)) else (some true)
def laws_sameLists.f (k : Nat) (l0 : List (List Int)) (l1 : List (List Int)) : Option (Bool) := if (l0.length : Int) = (l1.length : Int) then (laws_sameLists.l0 k l0 l1 0) else (some false)
theorem laws_sameLists.mono_l : ∀ k, (∀ y0 y1 y2, LeO (laws_sameLists.l0 k y0 y1 y2) (laws_sameLists.l0 (k + 1) y0 y1 y2))
  | 0 => fun _ _ _ r h => by simp [laws_sameLists.l0] at h
  | k + 1 => by
    have ih0 := laws_sameLists.mono_l k
    · intro y0 y1 y2
      unfold laws_sameLists.l0
      repeat' first
      | (with_reducible exact ih0 _ _ _)
      | (with_reducible exact laws_sameInts.mono _ _ _)
      | (with_reducible exact LeO.refl _)
      | (with_reducible exact LeO.none _)
      | (with_reducible refine LeO.ite ?_ ?_)
      | (with_reducible refine LeO.bind ?_ (fun _ => ?_))
      | exact ih0 _ _ _
      | exact laws_sameInts.mono _ _ _
      | exact LeO.none _
      | refine LeO.ite ?_ ?_
      | refine LeO.bind ?_ (fun _ => ?_)
theorem laws_sameLists.mono : ∀ a0 a1 k, LeO (laws_sameLists.f k a0 a1) (laws_sameLists.f (k + 1) a0 a1) := by
  intro a0 a1 k
  have ih0 := laws_sameLists.mono_l k
  unfold laws_sameLists.f
  repeat' first
      | (with_reducible exact ih0 _ _ _)
      | (with_reducible exact laws_sameInts.mono _ _ _)
      | (with_reducible exact LeO.refl _)
      | (with_reducible exact LeO.none _)
      | (with_reducible refine LeO.ite ?_ ?_)
      | (with_reducible refine LeO.bind ?_ (fun _ => ?_))
      | exact ih0 _ _ _
      | exact laws_sameInts.mono _ _ _
      | exact LeO.none _
      | refine LeO.ite ?_ ?_
      | refine LeO.bind ?_ (fun _ => ?_)
set_option maxHeartbeats 8000000 in
set_option maxRecDepth 100000 in
theorem laws_sameLists.calls (k : Nat) (A0 : Option Addr) (c0 : Nat) (l0 : List (List Int)) (A1 : Option Addr) (c1 : Nat) (l1 : List (List Int)) (r : Bool) (w : World) (hr0 : Kd.C (Kd.slice 3 (Kd.int .i64)) w A0 l0.length l0) (hc0 : l0.length ≤ c0) (hr1 : Kd.C (Kd.slice 3 (Kd.int .i64)) w A1 l1.length l1) (hc1 : l1.length ≤ c1) (h : laws_sameLists.f k l0 l1 = some r) :
    Calls Try.prog 30 #[.slice A0 l0.length c0, .slice A1 l1.length c1] w fun e w' => e = .returned (.bool r) ∧ Drawn0 w w' := by
  have HR0 := Aside0.mk hr0; have HC0 := Aside0.mk hc0; clear hr0 hc0; have HR1 := Aside0.mk hr1; have HC1 := Aside0.mk hc1; clear hr1 hc1; unfold laws_sameLists.f at h; have H := h; clear h
  by_cases c3 : (l0.length : Int) = (l1.length : Int)
  · rw [if_pos c3] at H
    have c3b0 : ((l0.length : Int) == (l1.length : Int)) = true := beq_iff_eq.mpr c3; have c3b1 : ((l0.length : Int) != (l1.length : Int)) = false := bne_eq_false_iff_eq.mpr c3
    have c3b2 : (l0.length == l1.length) = true := by first | simpa using c3 | (simp at c3 ⊢; omega)
    clear c3; have H' := Aside0.mk H; clear H; go_enter Try.func30, Try.ntmps30
    go_wp2
    repeat (go_quiet (fail); try go_wp2)
    go_loopg [5] k (fun kq v5 w' => ∃ (x5_1 : Int), v5 = .int .i64 x5_1 ∧ Aside0 (laws_sameLists.l0 kq l0 l1 x5_1 = some r) ∧ Aside0 (kq ≤ k) ∧ Drawn0 w w')
    case atStart => exact ⟨(0), sR, H', ⟨Nat.le_refl _⟩, by repeat (first | exact Drawn0.refl _ | apply Drawn0.step)⟩
    case round =>
      clear H'; (try clear c3); (try clear c3b0); (try clear c3b1); (try clear c3b2); obtain ⟨x5_1, rfl, HA, HK1, ⟨m1, rfl⟩⟩ := hrel; cases gk with
      | zero => exact absurd HA.out (by simp [laws_sameLists.l0])
      | succ k1 =>
        have H := HA.out; clear HA; simp only [laws_sameLists.l0] at H
        by_cases c4 : x5_1 < (l0.length : Int)
        · rw [if_pos c4] at H
          have c4b0 : decide (x5_1 < (l0.length : Int)) = true := decide_eq_true c4; clear c4; obtain ⟨c5, H⟩ := ifN H; have c5b0 : decide (0 ≤ x5_1) = true := decide_eq_true c5; clear c5; obtain ⟨c6, H⟩ := ifN H; have c6b0 : decide (x5_1 < (l1.length : Int)) = true := decide_eq_true c6; clear c6; obtain ⟨t105, A7, H⟩ := bnd H
          by_cases c8 : t105 = true
          · subst c8
            replace H := ifT H; have H' := Aside0.mk H; clear H; have p103 : 0 ≤ (x5_1 : Int) := oD; have q103 : x5_1 < (l0.length : Int) := oD; obtain ⟨ad103, A103_0, c103_0, e103, hx103_0, hl103_0, hi103_0⟩ := at_L1 HR0.out x5_1 p103 q103; cases e103; have HR103_0 := Aside0.mk hi103_0; have HC103_0 := Aside0.mk hl103_0; clear hi103_0 hl103_0; replace p103 := eq_true p103; replace q103 := eq_true q103; have p104 : 0 ≤ (x5_1 : Int) := oD; have q104 : x5_1 < (l1.length : Int) := oD; obtain ⟨ad104, A104_0, c104_0, e104, hx104_0, hl104_0, hi104_0⟩ := at_L1 HR1.out x5_1 p104 q104; cases e104; have HR104_0 := Aside0.mk hi104_0; have HC104_0 := Aside0.mk hl104_0; clear hi104_0 hl104_0; replace p104 := eq_true p104; replace q104 := eq_true q104
            go_wp2_with (first | (go_at_call 25; (with_reducible refine (laws_sameInts.calls k1 _ _ (rd_L1 l0 x5_1) _ _ (rd_L1 l1 x5_1) true _ ?side1 ?side2 ?side3 ?side4 A7.out).mono ?_); (case side1 => exact U HR103_0.out); (case side2 => exact HC103_0.out); (case side3 => exact U HR104_0.out); (case side4 => exact HC104_0.out); rintro e w' ⟨rfl, ⟨nd, rfl⟩⟩; (try first | exact ⟨rfl, _, World.drewN_drewN _ _ _⟩ | exact ⟨rfl, _, Eq.trans (World.drewN_drewN _ _ _) (congrArg (World.drewN _) (Nat.add_assoc _ _ _))⟩)))
            repeat (go_quiet (first | (go_at_call 25; (with_reducible refine (laws_sameInts.calls k1 _ _ (rd_L1 l0 x5_1) _ _ (rd_L1 l1 x5_1) true _ ?side1 ?side2 ?side3 ?side4 A7.out).mono ?_); (case side1 => exact U HR103_0.out); (case side2 => exact HC103_0.out); (case side3 => exact U HR104_0.out); (case side4 => exact HC104_0.out); rintro e w' ⟨rfl, ⟨nd, rfl⟩⟩; (try first | exact ⟨rfl, _, World.drewN_drewN _ _ _⟩ | exact ⟨rfl, _, Eq.trans (World.drewN_drewN _ _ _) (congrArg (World.drewN _) (Nat.add_assoc _ _ _))⟩))); try go_wp2_with (first | (go_at_call 25; (with_reducible refine (laws_sameInts.calls k1 _ _ (rd_L1 l0 x5_1) _ _ (rd_L1 l1 x5_1) true _ ?side1 ?side2 ?side3 ?side4 A7.out).mono ?_); (case side1 => exact U HR103_0.out); (case side2 => exact HC103_0.out); (case side3 => exact U HR104_0.out); (case side4 => exact HC104_0.out); rintro e w' ⟨rfl, ⟨nd, rfl⟩⟩; (try first | exact ⟨rfl, _, World.drewN_drewN _ _ _⟩ | exact ⟨rfl, _, Eq.trans (World.drewN_drewN _ _ _) (congrArg (World.drewN _) (Nat.add_assoc _ _ _))⟩))))
            go_roundg k1
            case measure => have := HK1.out; omega
            case rel => exact ⟨(wrap64 (x5_1 + 1)), sR, H', ⟨by have := HK1.out; omega⟩, by repeat (first | exact Drawn0.refl _ | apply Drawn0.step)⟩
          replace c8 := Bool.eq_false_iff.mpr c8; subst c8; replace H := ifF H; obtain rfl := Option.some.inj H; have p103 : 0 ≤ (x5_1 : Int) := oD; have q103 : x5_1 < (l0.length : Int) := oD; obtain ⟨ad103, A103_0, c103_0, e103, hx103_0, hl103_0, hi103_0⟩ := at_L1 HR0.out x5_1 p103 q103; cases e103; have HR103_0 := Aside0.mk hi103_0; have HC103_0 := Aside0.mk hl103_0; clear hi103_0 hl103_0; replace p103 := eq_true p103; replace q103 := eq_true q103; have p104 : 0 ≤ (x5_1 : Int) := oD; have q104 : x5_1 < (l1.length : Int) := oD; obtain ⟨ad104, A104_0, c104_0, e104, hx104_0, hl104_0, hi104_0⟩ := at_L1 HR1.out x5_1 p104 q104; cases e104; have HR104_0 := Aside0.mk hi104_0; have HC104_0 := Aside0.mk hl104_0; clear hi104_0 hl104_0; replace p104 := eq_true p104; replace q104 := eq_true q104
          go_wp2_with (first | (go_at_call 25; (with_reducible refine (laws_sameInts.calls k1 _ _ (rd_L1 l0 x5_1) _ _ (rd_L1 l1 x5_1) false _ ?side1 ?side2 ?side3 ?side4 A7.out).mono ?_); (case side1 => exact U HR103_0.out); (case side2 => exact HC103_0.out); (case side3 => exact U HR104_0.out); (case side4 => exact HC104_0.out); rintro e w' ⟨rfl, ⟨nd, rfl⟩⟩; (try first | exact ⟨rfl, _, World.drewN_drewN _ _ _⟩ | exact ⟨rfl, _, Eq.trans (World.drewN_drewN _ _ _) (congrArg (World.drewN _) (Nat.add_assoc _ _ _))⟩)))
          repeat (go_quiet (first | (go_at_call 25; (with_reducible refine (laws_sameInts.calls k1 _ _ (rd_L1 l0 x5_1) _ _ (rd_L1 l1 x5_1) false _ ?side1 ?side2 ?side3 ?side4 A7.out).mono ?_); (case side1 => exact U HR103_0.out); (case side2 => exact HC103_0.out); (case side3 => exact U HR104_0.out); (case side4 => exact HC104_0.out); rintro e w' ⟨rfl, ⟨nd, rfl⟩⟩; (try first | exact ⟨rfl, _, World.drewN_drewN _ _ _⟩ | exact ⟨rfl, _, Eq.trans (World.drewN_drewN _ _ _) (congrArg (World.drewN _) (Nat.add_assoc _ _ _))⟩))); try go_wp2_with (first | (go_at_call 25; (with_reducible refine (laws_sameInts.calls k1 _ _ (rd_L1 l0 x5_1) _ _ (rd_L1 l1 x5_1) false _ ?side1 ?side2 ?side3 ?side4 A7.out).mono ?_); (case side1 => exact U HR103_0.out); (case side2 => exact HC103_0.out); (case side3 => exact U HR104_0.out); (case side4 => exact HC104_0.out); rintro e w' ⟨rfl, ⟨nd, rfl⟩⟩; (try first | exact ⟨rfl, _, World.drewN_drewN _ _ _⟩ | exact ⟨rfl, _, Eq.trans (World.drewN_drewN _ _ _) (congrArg (World.drewN _) (Nat.add_assoc _ _ _))⟩))))
          go_ret
          exact ⟨by first | rfl | (simp; done) | (simp [*]; done), by repeat (first | exact Drawn0.refl _ | apply Drawn0.step)⟩
        rw [if_neg c4] at H; have c4b0 : decide (x5_1 < (l0.length : Int)) = false := decide_eq_false c4; clear c4; obtain rfl := Option.some.inj H
        go_wp2
        repeat (go_quiet (fail); try go_wp2)
        go_ret
        exact ⟨by first | rfl | (simp; done) | (simp [*]; done), by repeat (first | exact Drawn0.refl _ | apply Drawn0.step)⟩
  rw [if_neg c3] at H; have c3b0 : ((l0.length : Int) == (l1.length : Int)) = false := beq_eq_false_iff_ne.mpr c3; have c3b1 : ((l0.length : Int) != (l1.length : Int)) = true := bne_iff_ne.mpr c3
  have c3b2 : (l0.length == l1.length) = false := by first | simpa using c3 | (simp at c3 ⊢; omega)
  obtain rfl := Option.some.inj H; go_enter Try.func30, Try.ntmps30
  go_wp2
  repeat (go_quiet (fail); try go_wp2)
  go_ret
  exact ⟨by first | rfl | (simp; done) | (simp [*]; done), by repeat (first | exact Drawn0.refl _ | apply Drawn0.step)⟩

/-! ### laws_sameMove: function 16 -/
def laws_sameMove.f (k : Nat) (l0_0 : List (List Int)) (a0_1 : Int) (l1_0 : List (List Int)) (a1_1 : Int) : Option (Bool) := if a0_1 = a1_1 then ((laws_sameLists.f k l0_0 l1_0).bind fun t108 => (some t108)) else (some false)
theorem laws_sameMove.mono : ∀ a0 a1 a2 a3 k, LeO (laws_sameMove.f k a0 a1 a2 a3) (laws_sameMove.f (k + 1) a0 a1 a2 a3) := by
  intro a0 a1 a2 a3 k
  unfold laws_sameMove.f
  repeat' first
      | (with_reducible exact laws_sameLists.mono _ _ _)
      | (with_reducible exact LeO.refl _)
      | (with_reducible exact LeO.none _)
      | (with_reducible refine LeO.ite ?_ ?_)
      | (with_reducible refine LeO.bind ?_ (fun _ => ?_))
      | exact laws_sameLists.mono _ _ _
      | exact LeO.none _
      | refine LeO.ite ?_ ?_
      | refine LeO.bind ?_ (fun _ => ?_)
set_option maxHeartbeats 8000000 in
set_option maxRecDepth 100000 in
theorem laws_sameMove.calls (k : Nat) (A0_0 : Option Addr) (c0_0 : Nat) (l0_0 : List (List Int)) (a0_1 : Int) (A1_0 : Option Addr) (c1_0 : Nat) (l1_0 : List (List Int)) (a1_1 : Int) (r : Bool) (w : World) (hr0_0 : Kd.C (Kd.slice 3 (Kd.int .i64)) w A0_0 l0_0.length l0_0) (hc0_0 : l0_0.length ≤ c0_0) (hr1_0 : Kd.C (Kd.slice 3 (Kd.int .i64)) w A1_0 l1_0.length l1_0) (hc1_0 : l1_0.length ≤ c1_0) (h : laws_sameMove.f k l0_0 a0_1 l1_0 a1_1 = some r) :
    Calls Try.prog 16 #[.agg #[.slice A0_0 l0_0.length c0_0, .int .i64 a0_1], .agg #[.slice A1_0 l1_0.length c1_0, .int .i64 a1_1]] w fun e w' => e = .returned (.bool r) ∧ Below w.heap.size w w' := by
  have hu27 := Try.underlying27; have HR0_0 := Aside0.mk hr0_0; have HC0_0 := Aside0.mk hc0_0; clear hr0_0 hc0_0; have HR1_0 := Aside0.mk hr1_0; have HC1_0 := Aside0.mk hc1_0; clear hr1_0 hc1_0; have HB := Aside0.mk (Below.refl w.heap.size w); unfold laws_sameMove.f at h; have H := h; clear h
  by_cases c3 : a0_1 = a1_1
  · rw [if_pos c3] at H
    have c3b0 : (a0_1 == a1_1) = true := beq_iff_eq.mpr c3; have c3b1 : (a0_1 != a1_1) = false := bne_eq_false_iff_eq.mpr c3; clear c3; obtain ⟨t108, A4, H⟩ := bnd H; obtain rfl := Option.some.inj H; go_enter Try.func16, Try.ntmps16
    go_wp2_with (first | ((with_reducible refine gate_dst (N := 2) rfl ?_); refine boxE (N := 2) (cs := #[.slice A0_0 l0_0.length c0_0, .int .i64 a0_1]) (t := 27) ?_; intro gb106 hg w5 hbox hb; have BK106 := Aside0.mk (hbox); have GW106 := GS w hg; have GE106 := GS w hg; replace HB := BS hb; clear hb hbox hg) | ((with_reducible refine gate_dst (N := 3) rfl ?_); refine boxE (N := 3) (cs := #[.slice A1_0 l1_0.length c1_0, .int .i64 a1_1]) (t := 27) ?_; intro gb107 hg w6 hbox hb; have BK107 := Aside0.mk (hbox); have GW107 := GS w hg; have GE107 := GS w hg; replace HB := BS hb; have NB106_107 := NL BK106 hg; have NB107_106 := NG BK106 hg; replace BK106 := bB BK106 hb; clear hb hbox hg; have hnb7 := NB106_107.out; have hnc7 := NB107_106.out; obtain ⟨hcz8_0, hcz8_1, hfz8_0, hfz8_1⟩ := bcf BK106; obtain ⟨hcz9_0, hcz9_1, hfz9_0, hfz9_1⟩ := bcf BK107) | (go_at_call 30; (with_reducible refine (laws_sameLists.calls k _ _ l0_0 _ _ l1_0 t108 _ ?side1 ?side2 ?side3 ?side4 A4.out).mono ?_); (case side1 => exact U (Kd.C_below HR0_0.out HB.out)); (case side2 => exact HC0_0.out); (case side3 => exact U (Kd.C_below HR1_0.out HB.out)); (case side4 => exact HC1_0.out); rintro e w' ⟨rfl, ⟨nd, rfl⟩⟩))
    go_ret
    exact ⟨eR, BU⟩
  rw [if_neg c3] at H; have c3b0 : (a0_1 == a1_1) = false := beq_eq_false_iff_ne.mpr c3; have c3b1 : (a0_1 != a1_1) = true := bne_iff_ne.mpr c3; obtain rfl := Option.some.inj H; go_enter Try.func16, Try.ntmps16
  go_wp2_with (first | ((with_reducible refine gate_dst (N := 2) rfl ?_); refine boxE (N := 2) (cs := #[.slice A0_0 l0_0.length c0_0, .int .i64 a0_1]) (t := 27) ?_; intro gb106 hg w10 hbox hb; have BK106 := Aside0.mk (hbox); have GW106 := GS w hg; have GE106 := GS w hg; replace HB := BS hb; clear hb hbox hg) | ((with_reducible refine gate_dst (N := 3) rfl ?_); refine boxE (N := 3) (cs := #[.slice A1_0 l1_0.length c1_0, .int .i64 a1_1]) (t := 27) ?_; intro gb107 hg w11 hbox hb; have BK107 := Aside0.mk (hbox); have GW107 := GS w hg; have GE107 := GS w hg; replace HB := BS hb; have NB106_107 := NL BK106 hg; have NB107_106 := NG BK106 hg; replace BK106 := bB BK106 hb; clear hb hbox hg; have hnb12 := NB106_107.out; have hnc12 := NB107_106.out; obtain ⟨hcz13_0, hcz13_1, hfz13_0, hfz13_1⟩ := bcf BK106; obtain ⟨hcz14_0, hcz14_1, hfz14_0, hfz14_1⟩ := bcf BK107))
  go_ret
  exact ⟨eR, BU⟩

/-! ### impl_size: function 60 -/
def impl_size.f (a0 : Int) : Option (Int) := some (mx a0 (wrap64 (-a0)))
set_option maxHeartbeats 8000000 in
set_option maxRecDepth 100000 in
theorem impl_size.calls (a0 : Int) (r : Int) (w : World) (h : impl_size.f a0 = some r) :
    Calls Try.prog 60 #[.int .i64 a0] w fun e w' => e = .returned (.int .i64 r) ∧ Below w.heap.size w w' := by
  have HB := Aside0.mk (Below.refl w.heap.size w); unfold impl_size.f at h; have H := h; clear h; obtain ⟨ji2, hji2⟩ : ∃ j_ : Int, (mx a0 (wrap64 (-a0))) = j_ := ⟨_, rfl⟩
  replace H : (some ji2) = some r := by first | (rw [hji2] at H; exact H) | (simp only [hji2] at H ⊢; exact H)
  have hji2_ : (if a0 < (wrap64 (-a0)) then (wrap64 (-a0)) else a0) = ji2 := hji2; obtain rfl := Option.some.inj H; go_enter Try.func60, Try.ntmps60
  go_wp2
  go_ret
  exact ⟨by first | rfl | (simp [errW_none, errW_some] <;> rfl) | (simp only [← hji2]; first | rfl | (simp [errW_none, errW_some] <;> rfl)) | (simp [*, errW_none, errW_some] <;> rfl), BU⟩

/-! ### impl_FormValid: function 52 -/
def impl_FormValid.l0 : Nat → List Int → List Int → Int → Int → Option (Bool)
  | 0, _, _, _, _ => none
  | k + 1, x0, x5, x6, x7 => if x7 < x6 then (if 0 ≤ x7 then (if x7 < (x5.length : Int) then (if (rd x5 x7) = 0 then (some false) else ((impl_size.f (rd x5 x7)).bind fun t110 => (if t110 > 30 then (some false) else (impl_FormValid.l0 k x0 x5 x6 (wrap64 (x7 + 1)))))) else (none)) else (none)) else (if (x0.length : Int) ≥ 1 then (some (decide ((x0.length : Int) ≤ 4))) else (some false))
def impl_FormValid.f (k : Nat) (l0 : List Int) : Option (Bool) := impl_FormValid.l0 k l0 l0 (l0.length : Int) 0
theorem impl_FormValid.mono_l : ∀ k, (∀ y0 y1 y2 y3, LeO (impl_FormValid.l0 k y0 y1 y2 y3) (impl_FormValid.l0 (k + 1) y0 y1 y2 y3))
  | 0 => fun _ _ _ _ r h => by simp [impl_FormValid.l0] at h
  | k + 1 => by
    have ih0 := impl_FormValid.mono_l k
    · intro y0 y1 y2 y3
      unfold impl_FormValid.l0
      repeat' first
      | (with_reducible exact ih0 _ _ _ _)
      | (with_reducible exact LeO.refl _)
      | (with_reducible exact LeO.none _)
      | (with_reducible refine LeO.ite ?_ ?_)
      | (with_reducible refine LeO.bind ?_ (fun _ => ?_))
      | exact ih0 _ _ _ _
      | exact LeO.none _
      | refine LeO.ite ?_ ?_
      | refine LeO.bind ?_ (fun _ => ?_)
theorem impl_FormValid.mono : ∀ a0 k, LeO (impl_FormValid.f k a0) (impl_FormValid.f (k + 1) a0) := by
  intro a0 k
  have ih0 := impl_FormValid.mono_l k
  unfold impl_FormValid.f
  repeat' first
      | (with_reducible exact ih0 _ _ _ _)
      | (with_reducible exact LeO.refl _)
      | (with_reducible exact LeO.none _)
      | (with_reducible refine LeO.ite ?_ ?_)
      | (with_reducible refine LeO.bind ?_ (fun _ => ?_))
      | exact ih0 _ _ _ _
      | exact LeO.none _
      | refine LeO.ite ?_ ?_
      | refine LeO.bind ?_ (fun _ => ?_)
set_option maxHeartbeats 8000000 in
set_option maxRecDepth 100000 in
theorem impl_FormValid.calls (k : Nat) (A0 : Option Addr) (c0 : Nat) (l0 : List Int) (r : Bool) (w : World) (hr0 : Kd.C (Kd.int .i64) w A0 l0.length l0) (hc0 : l0.length ≤ c0) (h : impl_FormValid.f k l0 = some r) :
    Calls Try.prog 52 #[.slice A0 l0.length c0] w fun e w' => e = .returned (.bool r) ∧ Below w.heap.size w w' := by
  have HR0 := Aside0.mk hr0; have HC0 := Aside0.mk hc0; clear hr0 hc0; have HB := Aside0.mk (Below.refl w.heap.size w); unfold impl_FormValid.f at h; have H := h; clear h; have H' := Aside0.mk H; clear H; go_enter Try.func52, Try.ntmps52
  go_wp2
  go_loopg [7] k (fun kq v7 w' => ∃ (x7_1 : Int), v7 = .int .i64 x7_1 ∧ Aside0 (impl_FormValid.l0 kq l0 l0 (l0.length : Int) x7_1 = some r) ∧ Aside0 (kq ≤ k) ∧ Aside0 (Below w.heap.size w w'))
  case atStart => exact ⟨(0), sR, H', ⟨Nat.le_refl _⟩, ⟨BU⟩⟩
  case round =>
    clear H'; obtain ⟨x7_1, rfl, HA, HK1, HB⟩ := hrel; cases gk with
    | zero => exact absurd HA.out (by simp [impl_FormValid.l0])
    | succ k1 =>
      have H := HA.out; clear HA; simp only [impl_FormValid.l0] at H
      by_cases c2 : x7_1 < (l0.length : Int)
      · rw [if_pos c2] at H
        have c2b0 : decide (x7_1 < (l0.length : Int)) = true := decide_eq_true c2; clear c2; obtain ⟨c3, H⟩ := ifN H; have c3b0 : decide (0 ≤ x7_1) = true := decide_eq_true c3; clear c3; obtain ⟨c4, H⟩ := ifN H; have c4b0 : decide (x7_1 < (l0.length : Int)) = true := decide_eq_true c4; clear c4
        by_cases c5 : (rd l0 x7_1) = 0
        · rw [if_pos c5] at H
          have c5b0 : ((rd l0 x7_1) == 0) = true := beq_iff_eq.mpr c5; have c5b1 : ((rd l0 x7_1) != 0) = false := bne_eq_false_iff_eq.mpr c5; clear c5; obtain rfl := Option.some.inj H; have p109 : 0 ≤ (x7_1 : Int) := oD; have q109 : x7_1 < (l0.length : Int) := oD; obtain ⟨ad109, e109, hx109_0⟩ := Kd.at_int HR0.out x7_1 p109 q109; cases e109; replace hx109_0 := (HB.out.cell (World.block_lt_of_cell? w _ hx109_0)).trans hx109_0; replace p109 := eq_true p109; replace q109 := eq_true q109
          go_wp2
          go_ret
          exact ⟨eR, BU⟩
        rw [if_neg c5] at H; have c5b0 : ((rd l0 x7_1) == 0) = false := beq_eq_false_iff_ne.mpr c5; have c5b1 : ((rd l0 x7_1) != 0) = true := bne_iff_ne.mpr c5; obtain ⟨t110, A6, H⟩ := bnd H
        by_cases c7 : t110 > 30
        · rw [if_pos c7] at H
          have c7b0 : decide (30 < t110) = true := decide_eq_true c7; clear c7; obtain rfl := Option.some.inj H; have p109 : 0 ≤ (x7_1 : Int) := oD; have q109 : x7_1 < (l0.length : Int) := oD; obtain ⟨ad109, e109, hx109_0⟩ := Kd.at_int HR0.out x7_1 p109 q109; cases e109; replace hx109_0 := (HB.out.cell (World.block_lt_of_cell? w _ hx109_0)).trans hx109_0; replace p109 := eq_true p109; replace q109 := eq_true q109
          go_wp2_with (first | (go_at_call 60; (with_reducible refine (impl_size.calls (rd l0 x7_1) t110 _ A6.out).mono ?_); rintro e w8 ⟨rfl, hb⟩; replace HB := BS hb; (try clear hb)))
          go_ret
          exact ⟨eR, BU⟩
        rw [if_neg c7] at H; have c7b0 : decide (30 < t110) = false := decide_eq_false c7; clear c7; have H' := Aside0.mk H; clear H; have p109 : 0 ≤ (x7_1 : Int) := oD; have q109 : x7_1 < (l0.length : Int) := oD; obtain ⟨ad109, e109, hx109_0⟩ := Kd.at_int HR0.out x7_1 p109 q109; cases e109; replace hx109_0 := (HB.out.cell (World.block_lt_of_cell? w _ hx109_0)).trans hx109_0; replace p109 := eq_true p109; replace q109 := eq_true q109
        go_wp2_with (first | (go_at_call 60; (with_reducible refine (impl_size.calls (rd l0 x7_1) t110 _ A6.out).mono ?_); rintro e w9 ⟨rfl, hb⟩; replace HB := BS hb; (try clear hb)))
        go_roundg k1
        case measure => have := HK1.out; omega
        case rel => exact ⟨(wrap64 (x7_1 + 1)), sR, H', ⟨by have := HK1.out; omega⟩, ⟨BU⟩⟩
      rw [if_neg c2] at H; have c2b0 : decide (x7_1 < (l0.length : Int)) = false := decide_eq_false c2; clear c2
      by_cases c10 : (l0.length : Int) ≥ 1
      · rw [if_pos c10] at H
        have c10b0 : decide (1 ≤ (l0.length : Int)) = true := decide_eq_true c10; have c10b1 : decide (1 ≤ l0.length) = true := decide_eq_true (by omega); clear c10; obtain rfl := Option.some.inj H
        go_wp2
        go_ret
        exact ⟨eR, BU⟩
      rw [if_neg c10] at H; have c10b0 : decide (1 ≤ (l0.length : Int)) = false := decide_eq_false c10; have c10b1 : decide (1 ≤ l0.length) = false := decide_eq_false (by omega); clear c10; obtain rfl := Option.some.inj H
      go_wp2
      go_ret
      exact ⟨eR, BU⟩

/-! ### impl_vectorOk: function 56 -/
def impl_vectorOk.l0 : Nat → List Int → List Int → Int → List Int → Int → Int → Option (Bool)
  | 0, _, _, _, _, _, _ => none
  | k + 1, x0, x1, x2, x9, x10, x11 => if x11 < x10 then (if 0 ≤ x11 then (if x11 < (x9.length : Int) then (if (rd x9 x11) < (wrap64 (-x2)) then (some false) else (if (rd x9 x11) > x2 then (some false) else (impl_vectorOk.l0 k x0 x1 x2 x9 x10 (wrap64 (x11 + 1))))) else (none)) else (none)) else (some ((x1.length : Int) == (x0.length : Int)))
def impl_vectorOk.f (k : Nat) (l0 : List Int) (l1 : List Int) (a2 : Int) : Option (Bool) := impl_vectorOk.l0 k l0 l1 a2 l1 (l1.length : Int) 0
theorem impl_vectorOk.mono_l : ∀ k, (∀ y0 y1 y2 y3 y4 y5, LeO (impl_vectorOk.l0 k y0 y1 y2 y3 y4 y5) (impl_vectorOk.l0 (k + 1) y0 y1 y2 y3 y4 y5))
  | 0 => fun _ _ _ _ _ _ r h => by simp [impl_vectorOk.l0] at h
  | k + 1 => by
    have ih0 := impl_vectorOk.mono_l k
    · intro y0 y1 y2 y3 y4 y5
      unfold impl_vectorOk.l0
      repeat' first
      | (with_reducible exact ih0 _ _ _ _ _ _)
      | (with_reducible exact LeO.refl _)
      | (with_reducible exact LeO.none _)
      | (with_reducible refine LeO.ite ?_ ?_)
      | (with_reducible refine LeO.bind ?_ (fun _ => ?_))
      | exact ih0 _ _ _ _ _ _
      | exact LeO.none _
      | refine LeO.ite ?_ ?_
      | refine LeO.bind ?_ (fun _ => ?_)
theorem impl_vectorOk.mono : ∀ a0 a1 a2 k, LeO (impl_vectorOk.f k a0 a1 a2) (impl_vectorOk.f (k + 1) a0 a1 a2) := by
  intro a0 a1 a2 k
  have ih0 := impl_vectorOk.mono_l k
  unfold impl_vectorOk.f
  repeat' first
      | (with_reducible exact ih0 _ _ _ _ _ _)
      | (with_reducible exact LeO.refl _)
      | (with_reducible exact LeO.none _)
      | (with_reducible refine LeO.ite ?_ ?_)
      | (with_reducible refine LeO.bind ?_ (fun _ => ?_))
      | exact ih0 _ _ _ _ _ _
      | exact LeO.none _
      | refine LeO.ite ?_ ?_
      | refine LeO.bind ?_ (fun _ => ?_)
set_option maxHeartbeats 8000000 in
set_option maxRecDepth 100000 in
theorem impl_vectorOk.calls (k : Nat) (A0 : Option Addr) (c0 : Nat) (l0 : List Int) (A1 : Option Addr) (c1 : Nat) (l1 : List Int) (a2 : Int) (r : Bool) (w : World) (hr0 : Kd.C (Kd.int .i64) w A0 l0.length l0) (hc0 : l0.length ≤ c0) (hr1 : Kd.C (Kd.int .i64) w A1 l1.length l1) (hc1 : l1.length ≤ c1) (h : impl_vectorOk.f k l0 l1 a2 = some r) :
    Calls Try.prog 56 #[.slice A0 l0.length c0, .slice A1 l1.length c1, .int .i64 a2] w fun e w' => e = .returned (.bool r) ∧ Drawn0 w w' := by
  have HR0 := Aside0.mk hr0; have HC0 := Aside0.mk hc0; clear hr0 hc0; have HR1 := Aside0.mk hr1; have HC1 := Aside0.mk hc1; clear hr1 hc1; unfold impl_vectorOk.f at h; have H := h; clear h; have H' := Aside0.mk H; clear H; go_enter Try.func56, Try.ntmps56
  go_wp2
  go_loopg [11] k (fun kq v11 w' => ∃ (x11_1 : Int), v11 = .int .i64 x11_1 ∧ Aside0 (impl_vectorOk.l0 kq l0 l1 a2 l1 (l1.length : Int) x11_1 = some r) ∧ Aside0 (kq ≤ k) ∧ Drawn0 w w')
  case atStart => exact ⟨(0), sR, H', ⟨Nat.le_refl _⟩, by repeat (first | exact Drawn0.refl _ | apply Drawn0.step)⟩
  case round =>
    clear H'; obtain ⟨x11_1, rfl, HA, HK1, ⟨m1, rfl⟩⟩ := hrel; cases gk with
    | zero => exact absurd HA.out (by simp [impl_vectorOk.l0])
    | succ k1 =>
      have H := HA.out; clear HA; simp only [impl_vectorOk.l0] at H
      by_cases c4 : x11_1 < (l1.length : Int)
      · rw [if_pos c4] at H
        have c4b0 : decide (x11_1 < (l1.length : Int)) = true := decide_eq_true c4; clear c4; obtain ⟨c5, H⟩ := ifN H; have c5b0 : decide (0 ≤ x11_1) = true := decide_eq_true c5; clear c5; obtain ⟨c6, H⟩ := ifN H; have c6b0 : decide (x11_1 < (l1.length : Int)) = true := decide_eq_true c6; clear c6
        by_cases c7 : (rd l1 x11_1) < (wrap64 (-a2))
        · rw [if_pos c7] at H
          have c7b0 : decide ((rd l1 x11_1) < (wrap64 (-a2))) = true := decide_eq_true c7; clear c7; obtain rfl := Option.some.inj H; have p111 : 0 ≤ (x11_1 : Int) := oD; have q111 : x11_1 < (l1.length : Int) := oD; obtain ⟨ad111, e111, hx111_0⟩ := Kd.at_int HR1.out x11_1 p111 q111; cases e111; replace p111 := eq_true p111; replace q111 := eq_true q111
          go_wp2
          go_ret
          exact ⟨by first | rfl | (simp; done) | (simp [*]; done), by repeat (first | exact Drawn0.refl _ | apply Drawn0.step)⟩
        rw [if_neg c7] at H; have c7b0 : decide ((rd l1 x11_1) < (wrap64 (-a2))) = false := decide_eq_false c7; clear c7
        by_cases c8 : (rd l1 x11_1) > a2
        · rw [if_pos c8] at H
          have c8b0 : decide (a2 < (rd l1 x11_1)) = true := decide_eq_true c8; clear c8; obtain rfl := Option.some.inj H; have p111 : 0 ≤ (x11_1 : Int) := oD; have q111 : x11_1 < (l1.length : Int) := oD; obtain ⟨ad111, e111, hx111_0⟩ := Kd.at_int HR1.out x11_1 p111 q111; cases e111; replace p111 := eq_true p111; replace q111 := eq_true q111
          go_wp2
          go_ret
          exact ⟨by first | rfl | (simp; done) | (simp [*]; done), by repeat (first | exact Drawn0.refl _ | apply Drawn0.step)⟩
        rw [if_neg c8] at H; have c8b0 : decide (a2 < (rd l1 x11_1)) = false := decide_eq_false c8; clear c8; have H' := Aside0.mk H; clear H; have p111 : 0 ≤ (x11_1 : Int) := oD; have q111 : x11_1 < (l1.length : Int) := oD; obtain ⟨ad111, e111, hx111_0⟩ := Kd.at_int HR1.out x11_1 p111 q111; cases e111; replace p111 := eq_true p111; replace q111 := eq_true q111
        go_wp2
        go_roundg k1
        case measure => have := HK1.out; omega
        case rel => exact ⟨(wrap64 (x11_1 + 1)), sR, H', ⟨by have := HK1.out; omega⟩, by repeat (first | exact Drawn0.refl _ | apply Drawn0.step)⟩
      rw [if_neg c4] at H; have c4b0 : decide (x11_1 < (l1.length : Int)) = false := decide_eq_false c4; clear c4; obtain rfl := Option.some.inj H
      go_wp2
      go_ret
      exact ⟨by first | rfl | (simp; done) | (simp [*]; done), by repeat (first | exact Drawn0.refl _ | apply Drawn0.step)⟩

/-! ### impl_pair: function 57 -/
def impl_pair.l0 : Nat → List Int → List Int → Int → List Int → Int → Int → Option (Int)
  | 0, _, _, _, _, _, _ => none
  | k + 1, x1, x2, x7, x10, x11, x12 => if x12 < x11 then (if 0 ≤ x12 then (if x12 < (x10.length : Int) then (if x12 < (x1.length : Int) then (if x12 < (x2.length : Int) then (impl_pair.l0 k x1 x2 (wrap64 (x7 + (wrap64 ((wrap64 ((rd x10 x12) * (rd x1 x12))) * (rd x2 x12))))) x10 x11 (wrap64 (x12 + 1))) else (none)) else (none)) else (none)) else (none)) else (some x7)
def impl_pair.f (k : Nat) (l0 : List Int) (l1 : List Int) (l2 : List Int) : Option (Int) := impl_pair.l0 k l1 l2 0 l0 (l0.length : Int) 0
theorem impl_pair.mono_l : ∀ k, (∀ y0 y1 y2 y3 y4 y5, LeO (impl_pair.l0 k y0 y1 y2 y3 y4 y5) (impl_pair.l0 (k + 1) y0 y1 y2 y3 y4 y5))
  | 0 => fun _ _ _ _ _ _ r h => by simp [impl_pair.l0] at h
  | k + 1 => by
    have ih0 := impl_pair.mono_l k
    · intro y0 y1 y2 y3 y4 y5
      unfold impl_pair.l0
      repeat' first
      | (with_reducible exact ih0 _ _ _ _ _ _)
      | (with_reducible exact LeO.refl _)
      | (with_reducible exact LeO.none _)
      | (with_reducible refine LeO.ite ?_ ?_)
      | (with_reducible refine LeO.bind ?_ (fun _ => ?_))
      | exact ih0 _ _ _ _ _ _
      | exact LeO.none _
      | refine LeO.ite ?_ ?_
      | refine LeO.bind ?_ (fun _ => ?_)
theorem impl_pair.mono : ∀ a0 a1 a2 k, LeO (impl_pair.f k a0 a1 a2) (impl_pair.f (k + 1) a0 a1 a2) := by
  intro a0 a1 a2 k
  have ih0 := impl_pair.mono_l k
  unfold impl_pair.f
  repeat' first
      | (with_reducible exact ih0 _ _ _ _ _ _)
      | (with_reducible exact LeO.refl _)
      | (with_reducible exact LeO.none _)
      | (with_reducible refine LeO.ite ?_ ?_)
      | (with_reducible refine LeO.bind ?_ (fun _ => ?_))
      | exact ih0 _ _ _ _ _ _
      | exact LeO.none _
      | refine LeO.ite ?_ ?_
      | refine LeO.bind ?_ (fun _ => ?_)
set_option maxHeartbeats 8000000 in
set_option maxRecDepth 100000 in
theorem impl_pair.calls (k : Nat) (A0 : Option Addr) (c0 : Nat) (l0 : List Int) (A1 : Option Addr) (c1 : Nat) (l1 : List Int) (A2 : Option Addr) (c2 : Nat) (l2 : List Int) (r : Int) (w : World) (hr0 : Kd.C (Kd.int .i64) w A0 l0.length l0) (hc0 : l0.length ≤ c0) (hr1 : Kd.C (Kd.int .i64) w A1 l1.length l1) (hc1 : l1.length ≤ c1) (hr2 : Kd.C (Kd.int .i64) w A2 l2.length l2) (hc2 : l2.length ≤ c2) (h : impl_pair.f k l0 l1 l2 = some r) :
    Calls Try.prog 57 #[.slice A0 l0.length c0, .slice A1 l1.length c1, .slice A2 l2.length c2] w fun e w' => e = .returned (.int .i64 r) ∧ Drawn0 w w' := by
  have HR0 := Aside0.mk hr0; have HC0 := Aside0.mk hc0; clear hr0 hc0; have HR1 := Aside0.mk hr1; have HC1 := Aside0.mk hc1; clear hr1 hc1; have HR2 := Aside0.mk hr2; have HC2 := Aside0.mk hc2; clear hr2 hc2; unfold impl_pair.f at h; have H := h; clear h; have H' := Aside0.mk H; clear H; go_enter Try.func57, Try.ntmps57
  go_wp2
  repeat (go_quiet (fail); try go_wp2)
  go_loopg [7, 12] k (fun kq v7 v12 w' => ∃ (x7_1 : Int) (x12_1 : Int), v7 = .int .i64 x7_1 ∧ v12 = .int .i64 x12_1 ∧ Aside0 (impl_pair.l0 kq l1 l2 x7_1 l0 (l0.length : Int) x12_1 = some r) ∧ Aside0 (kq ≤ k) ∧ Drawn0 w w')
  case atStart => exact ⟨(0), (0), sR, sR, H', ⟨Nat.le_refl _⟩, by repeat (first | exact Drawn0.refl _ | apply Drawn0.step)⟩
  case round =>
    clear H'; obtain ⟨x7_1, x12_1, rfl, rfl, HA, HK1, ⟨m1, rfl⟩⟩ := hrel; cases gk with
    | zero => exact absurd HA.out (by simp [impl_pair.l0])
    | succ k1 =>
      have H := HA.out; clear HA; simp only [impl_pair.l0] at H
      by_cases c4 : x12_1 < (l0.length : Int)
      · rw [if_pos c4] at H
        have c4b0 : decide (x12_1 < (l0.length : Int)) = true := decide_eq_true c4; clear c4; obtain ⟨c5, H⟩ := ifN H; have c5b0 : decide (0 ≤ x12_1) = true := decide_eq_true c5; clear c5; obtain ⟨c6, H⟩ := ifN H; have c6b0 : decide (x12_1 < (l0.length : Int)) = true := decide_eq_true c6; clear c6; obtain ⟨c7, H⟩ := ifN H; have c7b0 : decide (x12_1 < (l1.length : Int)) = true := decide_eq_true c7; clear c7; obtain ⟨c8, H⟩ := ifN H; have c8b0 : decide (x12_1 < (l2.length : Int)) = true := decide_eq_true c8; clear c8; have H' := Aside0.mk H; clear H; have p112 : 0 ≤ (x12_1 : Int) := oD; have q112 : x12_1 < (l0.length : Int) := oD; obtain ⟨ad112, e112, hx112_0⟩ := Kd.at_int HR0.out x12_1 p112 q112; cases e112; replace p112 := eq_true p112; replace q112 := eq_true q112; have p113 : 0 ≤ (x12_1 : Int) := oD; have q113 : x12_1 < (l1.length : Int) := oD; obtain ⟨ad113, e113, hx113_0⟩ := Kd.at_int HR1.out x12_1 p113 q113; cases e113; replace p113 := eq_true p113; replace q113 := eq_true q113; have p114 : 0 ≤ (x12_1 : Int) := oD; have q114 : x12_1 < (l2.length : Int) := oD; obtain ⟨ad114, e114, hx114_0⟩ := Kd.at_int HR2.out x12_1 p114 q114; cases e114; replace p114 := eq_true p114; replace q114 := eq_true q114
        go_wp2
        repeat (go_quiet (fail); try go_wp2)
        go_roundg k1
        case measure => have := HK1.out; omega
        case rel => exact ⟨(wrap64 (x7_1 + (wrap64 ((wrap64 ((rd l0 x12_1) * (rd l1 x12_1))) * (rd l2 x12_1))))), (wrap64 (x12_1 + 1)), sR, sR, H', ⟨by have := HK1.out; omega⟩, by repeat (first | exact Drawn0.refl _ | apply Drawn0.step)⟩
      rw [if_neg c4] at H; have c4b0 : decide (x12_1 < (l0.length : Int)) = false := decide_eq_false c4; clear c4; obtain rfl := Option.some.inj H
      go_wp2
      repeat (go_quiet (fail); try go_wp2)
      go_ret
      exact ⟨by first | rfl | (simp; done) | (simp [*]; done), by repeat (first | exact Drawn0.refl _ | apply Drawn0.step)⟩

end Go.Proofs.Ytnbeeogmaamgdaa.PFnMoveMul
