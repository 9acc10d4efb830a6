-- Written by a program of this session (wip/print2.py): the functions that the law reaches, plain, and the walks.
import Derived.Test.YtnbeeogmaamgdaaPFnMovex0
import Derived.Test.YtnbeeogmaamgdaaPFnMovex3
namespace Go.Proofs.Ytnbeeogmaamgdaa.PFnMove
open Go.RowKit Go.Proofs.YtnbeeogmaamgdaaW.PrintWords Go.Proofs.YtnbeeogmaamgdaaW.PrintLast Go.Proofs.YtnbeeogmaamgdaaW.PrintMore
attribute [local go_sem] max2_int min2_int max_two min_two max_three min_three max_four min_four   -- for this text's walks alone
set_option linter.unusedVariables false
set_option linter.unusedSimpArgs false

/-! ### impl_determinantSign: function 62 -/
def impl_determinantSign.l0 : Nat → List (List Int) → Int → Int → Option (Int)
  | 0, _, _, _ => none
  | k + 1, x0, x3, x41 => if x41 < 3 then (if 0 < (x0.length : Int) then (if 0 ≤ x41 then (if x41 < ((rd_L1 x0 0).length : Int) then (if 1 < (x0.length : Int) then (if 0 ≤ (Int.tmod (wrap64 (x41 + 1)) 3) then (if (Int.tmod (wrap64 (x41 + 1)) 3) < ((rd_L1 x0 1).length : Int) then (if 2 < (x0.length : Int) then (if 0 ≤ (Int.tmod (wrap64 (x41 + 2)) 3) then (if (Int.tmod (wrap64 (x41 + 2)) 3) < ((rd_L1 x0 2).length : Int) then (if (Int.tmod (wrap64 (x41 + 2)) 3) < ((rd_L1 x0 1).length : Int) then (if (Int.tmod (wrap64 (x41 + 1)) 3) < ((rd_L1 x0 2).length : Int) then (impl_determinantSign.l0 k x0 (wrap64 (x3 + (wrap64 ((rd (rd_L1 x0 0) x41) * (wrap64 ((wrap64 ((rd (rd_L1 x0 1) (Int.tmod (wrap64 (x41 + 1)) 3)) * (rd (rd_L1 x0 2) (Int.tmod (wrap64 (x41 + 2)) 3)))) - (wrap64 ((rd (rd_L1 x0 1) (Int.tmod (wrap64 (x41 + 2)) 3)) * (rd (rd_L1 x0 2) (Int.tmod (wrap64 (x41 + 1)) 3)))))))))) (wrap64 (x41 + 1))) else (none)) else (none)) else (none)) else (none)) else (none)) else (none)) else (none)) else (none)) else (none)) else (none)) else (none)) else (some x3)
def impl_determinantSign.f (k : Nat) (l0 : List (List Int)) : Option (Int) := if (l0.length : Int) = 1 then (if 0 < (l0.length : Int) then (if 0 < ((rd_L1 l0 0).length : Int) then (some (rd (rd_L1 l0 0) 0)) else (none)) else (none)) else (if (l0.length : Int) = 2 then (if 0 < (l0.length : Int) then (if 0 < ((rd_L1 l0 0).length : Int) then (if 1 < (l0.length : Int) then (if 1 < ((rd_L1 l0 1).length : Int) then (if 1 < ((rd_L1 l0 0).length : Int) then (if 0 < ((rd_L1 l0 1).length : Int) then (some (wrap64 ((wrap64 ((rd (rd_L1 l0 0) 0) * (rd (rd_L1 l0 1) 1))) - (wrap64 ((rd (rd_L1 l0 0) 1) * (rd (rd_L1 l0 1) 0)))))) else (none)) else (none)) else (none)) else (none)) else (none)) else (none)) else (impl_determinantSign.l0 k l0 0 0))
theorem impl_determinantSign.mono_l : ∀ k, (∀ y0 y1 y2, LeO (impl_determinantSign.l0 k y0 y1 y2) (impl_determinantSign.l0 (k + 1) y0 y1 y2))
  | 0 => fun _ _ _ r h => by simp [impl_determinantSign.l0] at h
  | k + 1 => by
    have ih0 := impl_determinantSign.mono_l k
    · intro y0 y1 y2
      unfold impl_determinantSign.l0
      repeat' first
      | (with_reducible exact ih0 _ _ _)
      | (with_reducible exact LeO.refl _)
      | (with_reducible exact LeO.none _)
      | (with_reducible refine LeO.ite ?_ ?_)
      | (with_reducible refine LeO.bind ?_ (fun _ => ?_))
      | exact ih0 _ _ _
      | exact LeO.none _
      | refine LeO.ite ?_ ?_
      | refine LeO.bind ?_ (fun _ => ?_)
theorem impl_determinantSign.mono : ∀ a0 k, LeO (impl_determinantSign.f k a0) (impl_determinantSign.f (k + 1) a0) := by
  intro a0 k
  have ih0 := impl_determinantSign.mono_l k
  unfold impl_determinantSign.f
  repeat' first
      | (with_reducible exact ih0 _ _ _)
      | (with_reducible exact LeO.refl _)
      | (with_reducible exact LeO.none _)
      | (with_reducible refine LeO.ite ?_ ?_)
      | (with_reducible refine LeO.bind ?_ (fun _ => ?_))
      | exact ih0 _ _ _
      | exact LeO.none _
      | refine LeO.ite ?_ ?_
      | refine LeO.bind ?_ (fun _ => ?_)
set_option maxHeartbeats 8000000 in
set_option maxRecDepth 100000 in
theorem impl_determinantSign.calls (k : Nat) (A0 : Option Addr) (c0 : Nat) (l0 : List (List Int)) (r : Int) (w : World) (hr0 : Kd.C (Kd.slice 3 (Kd.int .i64)) w A0 l0.length l0) (hc0 : l0.length ≤ c0) (h : impl_determinantSign.f k l0 = some r) :
    Calls Try.prog 62 #[.slice A0 l0.length c0] w fun e w' => e = .returned (.int .i64 r) ∧ Drawn0 w w' := by
  have HR0 := Aside0.mk hr0; have HC0 := Aside0.mk hc0; clear hr0 hc0; unfold impl_determinantSign.f at h; have H := h; clear h
  by_cases c2 : (l0.length : Int) = 1
  · rw [if_pos c2] at H
    have c2b0 : ((l0.length : Int) == 1) = true := beq_iff_eq.mpr c2; have c2b1 : ((l0.length : Int) != 1) = false := bne_eq_false_iff_eq.mpr c2; clear c2; obtain ⟨c3, H⟩ := ifN H; have c3b0 : decide (0 < (l0.length : Int)) = true := decide_eq_true c3; have c3b1 : decide (0 < l0.length) = true := decide_eq_true (by omega); clear c3; obtain ⟨c4, H⟩ := ifN H; have c4b0 : decide (0 < ((rd_L1 l0 0).length : Int)) = true := decide_eq_true c4; have c4b1 : decide (0 < (rd_L1 l0 0).length) = true := decide_eq_true (by omega); clear c4; obtain rfl := Option.some.inj H; have p240 : 0 ≤ (0 : Int) := (by omega); have q240 : 0 < (l0.length : Int) := oD; obtain ⟨ad240, A240_0, c240_0, e240, hx240_0, hl240_0, hi240_0⟩ := at_L1 HR0.out 0 p240 q240; cases e240; have qi240 : (0 < l0.length) = True := eq_true (by omega)
    (try rw [show ((0 : Int)).toNat = 0 from rfl] at hx240_0)
    (try rw [Addr.add_zero'] at hx240_0)
    have HR240_0 := Aside0.mk hi240_0; have HC240_0 := Aside0.mk hl240_0; clear hi240_0 hl240_0; replace p240 := eq_true p240; replace q240 := eq_true q240; have p241 : 0 ≤ (0 : Int) := (by omega); have q241 : 0 < ((rd_L1 l0 0).length : Int) := oD; obtain ⟨ad241, e241, hx241_0⟩ := Kd.at_int HR240_0.out 0 p241 q241; cases e241; have qi241 : (0 < (rd_L1 l0 0).length) = True := eq_true (by omega)
    (try rw [show ((0 : Int)).toNat = 0 from rfl] at hx241_0)
    (try rw [Addr.add_zero'] at hx241_0)
    replace p241 := eq_true p241; replace q241 := eq_true q241; go_enter Try.func62, Try.ntmps62
    go_wp2
    repeat (go_quiet (fail); try go_wp2)
    go_ret
    exact ⟨by first | rfl | (simp; done) | (simp [*]; done), by repeat (first | exact Drawn0.refl _ | apply Drawn0.step)⟩
  rw [if_neg c2] at H; have c2b0 : ((l0.length : Int) == 1) = false := beq_eq_false_iff_ne.mpr c2; have c2b1 : ((l0.length : Int) != 1) = true := bne_iff_ne.mpr c2
  by_cases c5 : (l0.length : Int) = 2
  · rw [if_pos c5] at H
    have c5b0 : ((l0.length : Int) == 2) = true := beq_iff_eq.mpr c5; have c5b1 : ((l0.length : Int) != 2) = false := bne_eq_false_iff_eq.mpr c5; clear c5; obtain ⟨c6, H⟩ := ifN H; have c6b0 : decide (0 < (l0.length : Int)) = true := decide_eq_true c6; have c6b1 : decide (0 < l0.length) = true := decide_eq_true (by omega); clear c6; obtain ⟨c7, H⟩ := ifN H; have c7b0 : decide (0 < ((rd_L1 l0 0).length : Int)) = true := decide_eq_true c7; have c7b1 : decide (0 < (rd_L1 l0 0).length) = true := decide_eq_true (by omega); clear c7; obtain ⟨c8, H⟩ := ifN H; have c8b0 : decide (1 < (l0.length : Int)) = true := decide_eq_true c8; have c8b1 : decide (1 < l0.length) = true := decide_eq_true (by omega); clear c8; obtain ⟨c9, H⟩ := ifN H; have c9b0 : decide (1 < ((rd_L1 l0 1).length : Int)) = true := decide_eq_true c9; have c9b1 : decide (1 < (rd_L1 l0 1).length) = true := decide_eq_true (by omega); clear c9; obtain ⟨c10, H⟩ := ifN H; have c10b0 : decide (1 < ((rd_L1 l0 0).length : Int)) = true := decide_eq_true c10; have c10b1 : decide (1 < (rd_L1 l0 0).length) = true := decide_eq_true (by omega); clear c10; obtain ⟨c11, H⟩ := ifN H; have c11b0 : decide (0 < ((rd_L1 l0 1).length : Int)) = true := decide_eq_true c11; have c11b1 : decide (0 < (rd_L1 l0 1).length) = true := decide_eq_true (by omega); clear c11; obtain rfl := Option.some.inj H; have p242 : 0 ≤ (0 : Int) := (by omega); have q242 : 0 < (l0.length : Int) := oD; obtain ⟨ad242, A242_0, c242_0, e242, hx242_0, hl242_0, hi242_0⟩ := at_L1 HR0.out 0 p242 q242; cases e242; have qi242 : (0 < l0.length) = True := eq_true (by omega)
    (try rw [show ((0 : Int)).toNat = 0 from rfl] at hx242_0)
    (try rw [Addr.add_zero'] at hx242_0)
    have HR242_0 := Aside0.mk hi242_0; have HC242_0 := Aside0.mk hl242_0; clear hi242_0 hl242_0; replace p242 := eq_true p242; replace q242 := eq_true q242; have p243 : 0 ≤ (0 : Int) := (by omega); have q243 : 0 < ((rd_L1 l0 0).length : Int) := oD; obtain ⟨ad243, e243, hx243_0⟩ := Kd.at_int HR242_0.out 0 p243 q243; cases e243; have qi243 : (0 < (rd_L1 l0 0).length) = True := eq_true (by omega)
    (try rw [show ((0 : Int)).toNat = 0 from rfl] at hx243_0)
    (try rw [Addr.add_zero'] at hx243_0)
    replace p243 := eq_true p243; replace q243 := eq_true q243; have p244 : 0 ≤ (1 : Int) := (by omega); have q244 : 1 < (l0.length : Int) := oD; obtain ⟨ad244, A244_0, c244_0, e244, hx244_0, hl244_0, hi244_0⟩ := at_L1 HR0.out 1 p244 q244; obtain rfl : ad242 = ad244 := (by injection e244)
    (try simp only [show (1 : Int).toNat = 1 from rfl, Nat.reduceMul, Nat.reduceEqDiff, Go.Addr.add, ↓reduceIte] at hx244_0)
    have qi244 : (1 < l0.length) = True := eq_true (by omega)
    (try rw [show ((1 : Int)).toNat = 1 from rfl] at hx244_0)
    have HR244_0 := Aside0.mk hi244_0; have HC244_0 := Aside0.mk hl244_0; clear hi244_0 hl244_0; replace p244 := eq_true p244; replace q244 := eq_true q244; have p245 : 0 ≤ (1 : Int) := (by omega); have q245 : 1 < ((rd_L1 l0 1).length : Int) := oD; obtain ⟨ad245, e245, hx245_0⟩ := Kd.at_int HR244_0.out 1 p245 q245; cases e245
    (try simp only [show (1 : Int).toNat = 1 from rfl, Nat.reduceMul, Nat.reduceEqDiff, Go.Addr.add, ↓reduceIte] at hx245_0)
    have qi245 : (1 < (rd_L1 l0 1).length) = True := eq_true (by omega)
    (try rw [show ((1 : Int)).toNat = 1 from rfl] at hx245_0)
    replace p245 := eq_true p245; replace q245 := eq_true q245; have p246 : 0 ≤ (0 : Int) := (by omega); have q246 : 0 < (l0.length : Int) := oD; obtain ⟨ad246, A246_0, c246_0, e246, hx246_0, hl246_0, hi246_0⟩ := at_L1 HR0.out 0 p246 q246; obtain rfl : ad242 = ad246 := (by injection e246); have qi246 : (0 < l0.length) = True := eq_true (by omega)
    (try rw [show ((0 : Int)).toNat = 0 from rfl] at hx246_0)
    (try rw [Addr.add_zero'] at hx246_0)
    have HR246_0 := Aside0.mk hi246_0; have HC246_0 := Aside0.mk hl246_0; clear hi246_0 hl246_0; replace p246 := eq_true p246; replace q246 := eq_true q246; have ea_ := Option.some.inj (hx242_0.symm.trans hx246_0)
    injection ea_ with ea_ en_ ec_
    subst ea_; subst ec_; clear en_; have p247 : 0 ≤ (1 : Int) := (by omega); have q247 : 1 < ((rd_L1 l0 0).length : Int) := oD; obtain ⟨ad247, e247, hx247_0⟩ := Kd.at_int HR246_0.out 1 p247 q247; cases e247
    (try simp only [show (1 : Int).toNat = 1 from rfl, Nat.reduceMul, Nat.reduceEqDiff, Go.Addr.add, ↓reduceIte] at hx247_0)
    have qi247 : (1 < (rd_L1 l0 0).length) = True := eq_true (by omega)
    (try rw [show ((1 : Int)).toNat = 1 from rfl] at hx247_0)
    replace p247 := eq_true p247; replace q247 := eq_true q247; have p248 : 0 ≤ (1 : Int) := (by omega); have q248 : 1 < (l0.length : Int) := oD; obtain ⟨ad248, A248_0, c248_0, e248, hx248_0, hl248_0, hi248_0⟩ := at_L1 HR0.out 1 p248 q248; obtain rfl : ad242 = ad248 := (by injection e248)
    (try simp only [show (1 : Int).toNat = 1 from rfl, Nat.reduceMul, Nat.reduceEqDiff, Go.Addr.add, ↓reduceIte] at hx248_0)
    have qi248 : (1 < l0.length) = True := eq_true (by omega)
    (try rw [show ((1 : Int)).toNat = 1 from rfl] at hx248_0)
    have HR248_0 := Aside0.mk hi248_0; have HC248_0 := Aside0.mk hl248_0; clear hi248_0 hl248_0; replace p248 := eq_true p248; replace q248 := eq_true q248; have ea_ := Option.some.inj (hx244_0.symm.trans hx248_0)
    injection ea_ with ea_ en_ ec_
    subst ea_; subst ec_; clear en_; have p249 : 0 ≤ (0 : Int) := (by omega); have q249 : 0 < ((rd_L1 l0 1).length : Int) := oD; obtain ⟨ad249, e249, hx249_0⟩ := Kd.at_int HR248_0.out 0 p249 q249; cases e249; have qi249 : (0 < (rd_L1 l0 1).length) = True := eq_true (by omega)
    (try rw [show ((0 : Int)).toNat = 0 from rfl] at hx249_0)
    (try rw [Addr.add_zero'] at hx249_0)
    replace p249 := eq_true p249; replace q249 := eq_true q249; go_enter Try.func62, Try.ntmps62
    go_wp2
    repeat (go_quiet (fail); try go_wp2)
    go_ret
    exact ⟨by first | rfl | (simp; done) | (simp [*]; done), by repeat (first | exact Drawn0.refl _ | apply Drawn0.step)⟩
  rw [if_neg c5] at H; have c5b0 : ((l0.length : Int) == 2) = false := beq_eq_false_iff_ne.mpr c5; have c5b1 : ((l0.length : Int) != 2) = true := bne_iff_ne.mpr c5; have H' := Aside0.mk H; clear H; go_enter Try.func62, Try.ntmps62
  go_wp2
  repeat (go_quiet (fail); try go_wp2)
  go_loopg [3, 41] k (fun kq v3 v41 w' => ∃ (x3_1 : Int) (x41_1 : Int), v3 = .int .i64 x3_1 ∧ v41 = .int .i64 x41_1 ∧ Aside0 (impl_determinantSign.l0 kq l0 x3_1 x41_1 = some r) ∧ Aside0 (kq ≤ k) ∧ Drawn0 w w')
  case atStart => exact ⟨(0), (0), sR, sR, H', ⟨Nat.le_refl _⟩, by repeat (first | exact Drawn0.refl _ | apply Drawn0.step)⟩
  case round =>
    clear H'; (try clear c2); (try clear c2b0); (try clear c2b1); (try clear c5); (try clear c5b0); (try clear c5b1); obtain ⟨x3_1, x41_1, rfl, rfl, HA, HK1, ⟨m1, rfl⟩⟩ := hrel; cases gk with
    | zero => exact absurd HA.out (by simp [impl_determinantSign.l0])
    | succ k1 =>
      have H := HA.out; clear HA; simp only [impl_determinantSign.l0] at H
      by_cases c12 : x41_1 < 3
      · rw [if_pos c12] at H
        have c12b0 : decide (x41_1 < 3) = true := decide_eq_true c12; clear c12; obtain ⟨c13, H⟩ := ifN H; have c13b0 : decide (0 < (l0.length : Int)) = true := decide_eq_true c13; have c13b1 : decide (0 < l0.length) = true := decide_eq_true (by omega); clear c13; obtain ⟨c14, H⟩ := ifN H; have c14b0 : decide (0 ≤ x41_1) = true := decide_eq_true c14; clear c14; obtain ⟨c15, H⟩ := ifN H; have c15b0 : decide (x41_1 < ((rd_L1 l0 0).length : Int)) = true := decide_eq_true c15; clear c15; obtain ⟨c16, H⟩ := ifN H; have c16b0 : decide (1 < (l0.length : Int)) = true := decide_eq_true c16; have c16b1 : decide (1 < l0.length) = true := decide_eq_true (by omega); clear c16; obtain ⟨ji17, hji17⟩ : ∃ j_ : Int, (Int.tmod (wrap64 (x41_1 + 1)) 3) = j_ := ⟨_, rfl⟩
        replace H : (if 0 ≤ (ji17) then (if (ji17) < ((rd_L1 l0 1).length : Int) then (if 2 < (l0.length : Int) then (if 0 ≤ (Int.tmod (wrap64 (x41_1 + 2)) 3) then (if (Int.tmod (wrap64 (x41_1 + 2)) 3) < ((rd_L1 l0 2).length : Int) then (if (Int.tmod (wrap64 (x41_1 + 2)) 3) < ((rd_L1 l0 1).length : Int) then (if (ji17) < ((rd_L1 l0 2).length : Int) then (impl_determinantSign.l0 k1 l0 (wrap64 (x3_1 + (wrap64 ((rd (rd_L1 l0 0) x41_1) * (wrap64 ((wrap64 ((rd (rd_L1 l0 1) (ji17)) * (rd (rd_L1 l0 2) (Int.tmod (wrap64 (x41_1 + 2)) 3)))) - (wrap64 ((rd (rd_L1 l0 1) (Int.tmod (wrap64 (x41_1 + 2)) 3)) * (rd (rd_L1 l0 2) (ji17)))))))))) (wrap64 (x41_1 + 1))) else (none)) else (none)) else (none)) else (none)) else (none)) else (none)) else (none)) = some r := by first | (rw [hji17] at H; exact H) | (simp only [hji17] at H ⊢; exact H)
        obtain ⟨c18, H⟩ := ifN H; have c18b0 : decide (0 ≤ (ji17)) = true := decide_eq_true c18; clear c18; obtain ⟨c19, H⟩ := ifN H; have c19b0 : decide ((ji17) < ((rd_L1 l0 1).length : Int)) = true := decide_eq_true c19; clear c19; obtain ⟨c20, H⟩ := ifN H; have c20b0 : decide (2 < (l0.length : Int)) = true := decide_eq_true c20; have c20b1 : decide (2 < l0.length) = true := decide_eq_true (by omega); clear c20; obtain ⟨ji21, hji21⟩ : ∃ j_ : Int, (Int.tmod (wrap64 (x41_1 + 2)) 3) = j_ := ⟨_, rfl⟩
        replace H : (if 0 ≤ (ji21) then (if (ji21) < ((rd_L1 l0 2).length : Int) then (if (ji21) < ((rd_L1 l0 1).length : Int) then (if (ji17) < ((rd_L1 l0 2).length : Int) then (impl_determinantSign.l0 k1 l0 (wrap64 (x3_1 + (wrap64 ((rd (rd_L1 l0 0) x41_1) * (wrap64 ((wrap64 ((rd (rd_L1 l0 1) (ji17)) * (rd (rd_L1 l0 2) (ji21)))) - (wrap64 ((rd (rd_L1 l0 1) (ji21)) * (rd (rd_L1 l0 2) (ji17)))))))))) (wrap64 (x41_1 + 1))) else (none)) else (none)) else (none)) else (none)) = some r := by first | (rw [hji21] at H; exact H) | (simp only [hji21] at H ⊢; exact H)
        obtain ⟨c22, H⟩ := ifN H; have c22b0 : decide (0 ≤ (ji21)) = true := decide_eq_true c22; clear c22; obtain ⟨c23, H⟩ := ifN H; have c23b0 : decide ((ji21) < ((rd_L1 l0 2).length : Int)) = true := decide_eq_true c23; clear c23; obtain ⟨c24, H⟩ := ifN H; have c24b0 : decide ((ji21) < ((rd_L1 l0 1).length : Int)) = true := decide_eq_true c24; clear c24; obtain ⟨c25, H⟩ := ifN H; have c25b0 : decide ((ji17) < ((rd_L1 l0 2).length : Int)) = true := decide_eq_true c25; clear c25; have H' := Aside0.mk H; clear H; have p250 : 0 ≤ (0 : Int) := (by omega); have q250 : 0 < (l0.length : Int) := oD; obtain ⟨ad250, A250_0, c250_0, e250, hx250_0, hl250_0, hi250_0⟩ := at_L1 HR0.out 0 p250 q250; cases e250; have qi250 : (0 < l0.length) = True := eq_true (by omega)
        (try rw [show ((0 : Int)).toNat = 0 from rfl] at hx250_0)
        (try rw [Addr.add_zero'] at hx250_0)
        have HR250_0 := Aside0.mk hi250_0; have HC250_0 := Aside0.mk hl250_0; clear hi250_0 hl250_0; replace p250 := eq_true p250; replace q250 := eq_true q250; have p251 : 0 ≤ (x41_1 : Int) := oD; have q251 : x41_1 < ((rd_L1 l0 0).length : Int) := oD; obtain ⟨ad251, e251, hx251_0⟩ := Kd.at_int HR250_0.out x41_1 p251 q251; cases e251; replace p251 := eq_true p251; replace q251 := eq_true q251; have p252 : 0 ≤ (1 : Int) := (by omega); have q252 : 1 < (l0.length : Int) := oD; obtain ⟨ad252, A252_0, c252_0, e252, hx252_0, hl252_0, hi252_0⟩ := at_L1 HR0.out 1 p252 q252; obtain rfl : ad250 = ad252 := (by injection e252)
        (try simp only [show (1 : Int).toNat = 1 from rfl, Nat.reduceMul, Nat.reduceEqDiff, Go.Addr.add, ↓reduceIte] at hx252_0)
        have qi252 : (1 < l0.length) = True := eq_true (by omega)
        (try rw [show ((1 : Int)).toNat = 1 from rfl] at hx252_0)
        have HR252_0 := Aside0.mk hi252_0; have HC252_0 := Aside0.mk hl252_0; clear hi252_0 hl252_0; replace p252 := eq_true p252; replace q252 := eq_true q252; have p253 : 0 ≤ ((ji17) : Int) := oD; have q253 : (ji17) < ((rd_L1 l0 1).length : Int) := oD; obtain ⟨ad253, e253, hx253_0⟩ := Kd.at_int HR252_0.out (ji17) p253 q253; cases e253; replace p253 := eq_true p253; replace q253 := eq_true q253; have p254 : 0 ≤ (2 : Int) := (by omega); have q254 : 2 < (l0.length : Int) := oD; obtain ⟨ad254, A254_0, c254_0, e254, hx254_0, hl254_0, hi254_0⟩ := at_L1 HR0.out 2 p254 q254; obtain rfl : ad250 = ad254 := (by injection e254)
        (try simp only [show (2 : Int).toNat = 2 from rfl, Nat.reduceMul, Nat.reduceEqDiff, Go.Addr.add, ↓reduceIte] at hx254_0)
        have qi254 : (2 < l0.length) = True := eq_true (by omega)
        (try rw [show ((2 : Int)).toNat = 2 from rfl] at hx254_0)
        have HR254_0 := Aside0.mk hi254_0; have HC254_0 := Aside0.mk hl254_0; clear hi254_0 hl254_0; replace p254 := eq_true p254; replace q254 := eq_true q254; have p255 : 0 ≤ ((ji21) : Int) := oD; have q255 : (ji21) < ((rd_L1 l0 2).length : Int) := oD; obtain ⟨ad255, e255, hx255_0⟩ := Kd.at_int HR254_0.out (ji21) p255 q255; cases e255; replace p255 := eq_true p255; replace q255 := eq_true q255; have p256 : 0 ≤ (1 : Int) := (by omega); have q256 : 1 < (l0.length : Int) := oD; obtain ⟨ad256, A256_0, c256_0, e256, hx256_0, hl256_0, hi256_0⟩ := at_L1 HR0.out 1 p256 q256; obtain rfl : ad250 = ad256 := (by injection e256)
        (try simp only [show (1 : Int).toNat = 1 from rfl, Nat.reduceMul, Nat.reduceEqDiff, Go.Addr.add, ↓reduceIte] at hx256_0)
        have qi256 : (1 < l0.length) = True := eq_true (by omega)
        (try rw [show ((1 : Int)).toNat = 1 from rfl] at hx256_0)
        have HR256_0 := Aside0.mk hi256_0; have HC256_0 := Aside0.mk hl256_0; clear hi256_0 hl256_0; replace p256 := eq_true p256; replace q256 := eq_true q256; have ea_ := Option.some.inj (hx252_0.symm.trans hx256_0)
        injection ea_ with ea_ en_ ec_
        subst ea_; subst ec_; clear en_; have p257 : 0 ≤ ((ji21) : Int) := oD; have q257 : (ji21) < ((rd_L1 l0 1).length : Int) := oD; obtain ⟨ad257, e257, hx257_0⟩ := Kd.at_int HR256_0.out (ji21) p257 q257; cases e257; replace p257 := eq_true p257; replace q257 := eq_true q257; have p258 : 0 ≤ (2 : Int) := (by omega); have q258 : 2 < (l0.length : Int) := oD; obtain ⟨ad258, A258_0, c258_0, e258, hx258_0, hl258_0, hi258_0⟩ := at_L1 HR0.out 2 p258 q258; obtain rfl : ad250 = ad258 := (by injection e258)
        (try simp only [show (2 : Int).toNat = 2 from rfl, Nat.reduceMul, Nat.reduceEqDiff, Go.Addr.add, ↓reduceIte] at hx258_0)
        have qi258 : (2 < l0.length) = True := eq_true (by omega)
        (try rw [show ((2 : Int)).toNat = 2 from rfl] at hx258_0)
        have HR258_0 := Aside0.mk hi258_0; have HC258_0 := Aside0.mk hl258_0; clear hi258_0 hl258_0; replace p258 := eq_true p258; replace q258 := eq_true q258; have ea_ := Option.some.inj (hx254_0.symm.trans hx258_0)
        injection ea_ with ea_ en_ ec_
        subst ea_; subst ec_; clear en_; have p259 : 0 ≤ ((ji17) : Int) := oD; have q259 : (ji17) < ((rd_L1 l0 2).length : Int) := oD; obtain ⟨ad259, e259, hx259_0⟩ := Kd.at_int HR258_0.out (ji17) p259 q259; cases e259; replace p259 := eq_true p259; replace q259 := eq_true q259
        go_wp2
        repeat (go_quiet (fail); try go_wp2)
        go_roundg k1
        case measure => have := HK1.out; omega
        case rel => exact ⟨(wrap64 (x3_1 + (wrap64 ((rd (rd_L1 l0 0) x41_1) * (wrap64 ((wrap64 ((rd (rd_L1 l0 1) (ji17)) * (rd (rd_L1 l0 2) (ji21)))) - (wrap64 ((rd (rd_L1 l0 1) (ji21)) * (rd (rd_L1 l0 2) (ji17)))))))))), (wrap64 (x41_1 + 1)), (by first | rfl | (simp; done) | (simp only [← hji17, ← hji21] <;> (first | rfl | simp)) | (simp [*]; done)), sR, H', ⟨by have := HK1.out; omega⟩, by repeat (first | exact Drawn0.refl _ | apply Drawn0.step)⟩
      rw [if_neg c12] at H; have c12b0 : decide (x41_1 < 3) = false := decide_eq_false c12; clear c12; obtain rfl := Option.some.inj H
      go_wp2
      repeat (go_quiet (fail); try go_wp2)
      go_ret
      exact ⟨by first | rfl | (simp; done) | (simp [*]; done), by repeat (first | exact Drawn0.refl _ | apply Drawn0.step)⟩

/-! ### impl_MoveSign: function 20 -/
def impl_MoveSign.f (k : Nat) (l0 : List Int) (l1_0 : List (List Int)) (a1_1 : Int) : Option (Int) := (impl_MoveValid.f k l0 l1_0 a1_1).bind fun t261 => (if t261 = true then ((impl_determinantSign.f k l1_0).bind fun t262 => (if t262 > 0 then (some 1) else (some (-1)))) else (some 0))
theorem impl_MoveSign.mono : ∀ a0 a1 a2 k, LeO (impl_MoveSign.f k a0 a1 a2) (impl_MoveSign.f (k + 1) a0 a1 a2) := by
  intro a0 a1 a2 k
  unfold impl_MoveSign.f
  repeat' first
      | (with_reducible exact impl_MoveValid.mono _ _ _ _)
      | (with_reducible exact impl_determinantSign.mono _ _)
      | (with_reducible exact LeO.refl _)
      | (with_reducible exact LeO.none _)
      | (with_reducible refine LeO.ite ?_ ?_)
      | (with_reducible refine LeO.bind ?_ (fun _ => ?_))
      | exact impl_MoveValid.mono _ _ _ _
      | exact impl_determinantSign.mono _ _
      | exact LeO.none _
      | refine LeO.ite ?_ ?_
      | refine LeO.bind ?_ (fun _ => ?_)
set_option maxHeartbeats 8000000 in
set_option maxRecDepth 100000 in
theorem impl_MoveSign.calls (k : Nat) (A0 : Option Addr) (c0 : Nat) (l0 : List Int) (A1_0 : Option Addr) (c1_0 : Nat) (l1_0 : List (List Int)) (a1_1 : Int) (r : Int) (w : World) (hr0 : Kd.C (Kd.int .i64) w A0 l0.length l0) (hc0 : l0.length ≤ c0) (hr1_0 : Kd.C (Kd.slice 3 (Kd.int .i64)) w A1_0 l1_0.length l1_0) (hc1_0 : l1_0.length ≤ c1_0) (h : impl_MoveSign.f k l0 l1_0 a1_1 = some r) :
    Calls Try.prog 20 #[.slice A0 l0.length c0, .agg #[.slice A1_0 l1_0.length c1_0, .int .i64 a1_1]] w fun e w' => e = .returned (.int .i64 r) ∧ Below w.heap.size w w' := by
  have hu27 := Try.underlying27; have HR0 := Aside0.mk hr0; have HC0 := Aside0.mk hc0; clear hr0 hc0; have HR1_0 := Aside0.mk hr1_0; have HC1_0 := Aside0.mk hc1_0; clear hr1_0 hc1_0; have HB := Aside0.mk (Below.refl w.heap.size w); unfold impl_MoveSign.f at h; have H := h; clear h; obtain ⟨t261, A3, H⟩ := bnd H
  by_cases c4 : t261 = true
  · subst c4
    replace H := ifT H; obtain ⟨t262, A5, H⟩ := bnd H
    by_cases c6 : t262 > 0
    · rw [if_pos c6] at H
      have c6b0 : decide (0 < t262) = true := decide_eq_true c6; clear c6; obtain rfl := Option.some.inj H; go_enter Try.func20, Try.ntmps20
      go_wp2_with (first | ((with_reducible refine gate_dst (N := 3) rfl ?_); refine boxE (N := 3) (cs := #[.slice A1_0 l1_0.length c1_0, .int .i64 a1_1]) (t := 27) ?_; intro gb260 hg w7 hbox hb; have BK260 := Aside0.mk (hbox); have GW260 := GS w hg; have GE260 := GS w hg; replace HB := BS hb; clear hb hbox hg; obtain ⟨hcz8_0, hcz8_1, hfz8_0, hfz8_1⟩ := bcf BK260) | ((with_reducible refine gate_callee (f := 21) rfl ?_); refine goesK (some 7) Try.func21 #[.slice A0 l0.length c0, .agg #[.slice A1_0 l1_0.length c1_0, .int .i64 a1_1]] ?_; (with_reducible refine (impl_MoveValid.calls k _ _ l0 _ _ l1_0 a1_1 true _ ?side1 ?side2 ?side3 ?side4 A3.out).mono ?_); (case side1 => exact U (Kd.C_below HR0.out HB.out)); (case side2 => exact HC0.out); (case side3 => exact U (Kd.C_below HR1_0.out HB.out)); (case side4 => exact HC1_0.out); rintro e w9 ⟨rfl, hb⟩; refine ⟨_, rfl, ?_⟩; replace BK260 := bB BK260 hb; replace HB := BS hb; (try clear hb); obtain ⟨hcz10_0, hcz10_1, hfz10_0, hfz10_1⟩ := bcf BK260) | ((with_reducible refine gate_callee (f := 62) rfl ?_); refine goesK (some 11) Try.func62 #[.slice A1_0 l1_0.length c1_0] ?_; (with_reducible refine (impl_determinantSign.calls k _ _ l1_0 t262 _ ?side1 ?side2 A5.out).mono ?_); (case side1 => exact U (Kd.C_below HR1_0.out HB.out)); (case side2 => exact HC1_0.out); rintro e w' ⟨rfl, ⟨nd, rfl⟩⟩; refine ⟨_, rfl, ?_⟩))
      go_ret
      exact ⟨eR, BU⟩
    · rw [if_neg c6] at H
      have c6b0 : decide (0 < t262) = false := decide_eq_false c6; clear c6; obtain rfl := Option.some.inj H; go_enter Try.func20, Try.ntmps20
      go_wp2_with (first | ((with_reducible refine gate_dst (N := 3) rfl ?_); refine boxE (N := 3) (cs := #[.slice A1_0 l1_0.length c1_0, .int .i64 a1_1]) (t := 27) ?_; intro gb260 hg w11 hbox hb; have BK260 := Aside0.mk (hbox); have GW260 := GS w hg; have GE260 := GS w hg; replace HB := BS hb; clear hb hbox hg; obtain ⟨hcz12_0, hcz12_1, hfz12_0, hfz12_1⟩ := bcf BK260) | ((with_reducible refine gate_callee (f := 21) rfl ?_); refine goesK (some 7) Try.func21 #[.slice A0 l0.length c0, .agg #[.slice A1_0 l1_0.length c1_0, .int .i64 a1_1]] ?_; (with_reducible refine (impl_MoveValid.calls k _ _ l0 _ _ l1_0 a1_1 true _ ?side1 ?side2 ?side3 ?side4 A3.out).mono ?_); (case side1 => exact U (Kd.C_below HR0.out HB.out)); (case side2 => exact HC0.out); (case side3 => exact U (Kd.C_below HR1_0.out HB.out)); (case side4 => exact HC1_0.out); rintro e w13 ⟨rfl, hb⟩; refine ⟨_, rfl, ?_⟩; replace BK260 := bB BK260 hb; replace HB := BS hb; (try clear hb); obtain ⟨hcz14_0, hcz14_1, hfz14_0, hfz14_1⟩ := bcf BK260) | ((with_reducible refine gate_callee (f := 62) rfl ?_); refine goesK (some 11) Try.func62 #[.slice A1_0 l1_0.length c1_0] ?_; (with_reducible refine (impl_determinantSign.calls k _ _ l1_0 t262 _ ?side1 ?side2 A5.out).mono ?_); (case side1 => exact U (Kd.C_below HR1_0.out HB.out)); (case side2 => exact HC1_0.out); rintro e w' ⟨rfl, ⟨nd, rfl⟩⟩; refine ⟨_, rfl, ?_⟩))
      go_ret
      exact ⟨eR, BU⟩
  · replace c4 := Bool.eq_false_iff.mpr c4
    subst c4; replace H := ifF H; obtain rfl := Option.some.inj H; go_enter Try.func20, Try.ntmps20
    go_wp2_with (first | ((with_reducible refine gate_dst (N := 3) rfl ?_); refine boxE (N := 3) (cs := #[.slice A1_0 l1_0.length c1_0, .int .i64 a1_1]) (t := 27) ?_; intro gb260 hg w15 hbox hb; have BK260 := Aside0.mk (hbox); have GW260 := GS w hg; have GE260 := GS w hg; replace HB := BS hb; clear hb hbox hg; obtain ⟨hcz16_0, hcz16_1, hfz16_0, hfz16_1⟩ := bcf BK260) | ((with_reducible refine gate_callee (f := 21) rfl ?_); refine goesK (some 7) Try.func21 #[.slice A0 l0.length c0, .agg #[.slice A1_0 l1_0.length c1_0, .int .i64 a1_1]] ?_; (with_reducible refine (impl_MoveValid.calls k _ _ l0 _ _ l1_0 a1_1 false _ ?side1 ?side2 ?side3 ?side4 A3.out).mono ?_); (case side1 => exact U (Kd.C_below HR0.out HB.out)); (case side2 => exact HC0.out); (case side3 => exact U (Kd.C_below HR1_0.out HB.out)); (case side4 => exact HC1_0.out); rintro e w17 ⟨rfl, hb⟩; refine ⟨_, rfl, ?_⟩; replace BK260 := bB BK260 hb; replace HB := BS hb; (try clear hb)))
    go_ret
    exact ⟨eR, BU⟩

/-- A state of type 83 at block g of W; what its slices lead to came in by w0. -/
def IsS83 (w0 W : World) (g : Nat) (f0 : List Int) (f1 : Int) : Prop := ∃ A0 c0, W.heap[g]? = some (.cells #[.slice A0 f0.length c0, .int .i64 f1] 83 (0, 0)) ∧ w0.heap.size ≤ g ∧ Kd.C (Kd.int .u8) w0 A0 f0.length f0
theorem IsS83.grown {w0 W : World} {g : Nat} {f0 : List Int} {f1 : Int} {W1 : World} {row : Option Nat} (h : IsS83 w0 W g f0 f1) (hw : W.grownBy W1 row) (hne : some g ≠ row) : IsS83 w0 W1 g f0 f1 := by
  obtain ⟨A0, c0, hb, hg, hr0⟩ := h
  exact ⟨A0, c0, blk_grown hb hw hne, hg, hr0⟩
theorem IsS83.own_neN {w0 W : World} {g : Nat} {f0 : List Int} {f1 : Int} {α : Type} {d : Kd α} {e : Nat} {base : Nat} {ok : Nat → Prop} {v : Value} {xs : List α} (h : IsS83 w0 W g f0 f1) (ho : Kd.N d e W base ok v xs) (ht : e ≠ 83) : some g ≠ v.ownBlock := by
  obtain ⟨A0, c0, hb, hg, hr0⟩ := h
  exact Kd.N_ne ho hb ht
theorem IsS83.fresh {w0 W : World} {g : Nat} {f0 : List Int} {f1 : Int} (h : IsS83 w0 W g f0 f1) : ∀ k, W.heap.size ≤ k → k ≠ g := by
  obtain ⟨A0, c0, hb, hg, hr0⟩ := h
  exact Kd.freshB hb
theorem IsS83.kept {w0 W : World} {g : Nat} {f0 : List Int} {f1 : Int} {W1 : World} {S : Nat → Prop} (h : IsS83 w0 W g f0 f1) (hk : Kept W W1 S) (hne : ¬ S g) : IsS83 w0 W1 g f0 f1 := by
  obtain ⟨A0, c0, hb, hg, hr0⟩ := h
  exact ⟨A0, c0, blk_kept hb hk hne, hg, hr0⟩
theorem IsS83.below {w0 W : World} {g : Nat} {f0 : List Int} {f1 : Int} {W1 : World} (h : IsS83 w0 W g f0 f1) (hw : Below W.heap.size W W1) : IsS83 w0 W1 g f0 f1 := h.grown (grown_of_below hw none) (by simp)
theorem IsS83.alloc {w0 W : World} {g : Nat} {f0 : List Int} {f1 : Int} (h : IsS83 w0 W g f0 f1) (o : Obj) : IsS83 w0 (W.alloc o) g f0 f1 := h.below (below_alloc (Below.refl _ _) o)
theorem IsS83.drewN {w0 W : World} {g : Nat} {f0 : List Int} {f1 : Int} (h : IsS83 w0 W g f0 f1) (m : Nat) : IsS83 w0 (W.drewN m) g f0 f1 := h
theorem IsS83.drew {w0 W : World} {g : Nat} {f0 : List Int} {f1 : Int} (h : IsS83 w0 W g f0 f1) : IsS83 w0 W.drew g f0 f1 := h
theorem IsS83.at_ {w0 W : World} {g : Nat} {f0 : List Int} {f1 : Int} {w' : World} {m : Nat} (hq : W.drewN m = w') (h : IsS83 w0 W g f0 f1) : IsS83 w0 w' g f0 f1 := by subst hq; exact IsS83.drewN h m
theorem IsS83.apart {w0 W : World} {g : Nat} {f0 : List Int} {f1 : Int} {α : Type} {d : Kd α} {e : Nat} {base : Nat} {ok : Nat → Prop} {v : Value} {xs : List α} (h : IsS83 w0 W g f0 f1) (ho : d.R e W base ok v xs) (ht : ∀ q, q ∈ e :: d.E → q ≠ 83) : d.R e W base (fun k => ok k ∧ k ≠ g) v xs := by
  obtain ⟨A0, c0, hb, hg, hr0⟩ := h
  exact Kd.R_types ho hb ht
theorem IsS83.own_ne {w0 W : World} {g : Nat} {f0 : List Int} {f1 : Int} {α : Type} {d : Kd α} {e : Nat} {base : Nat} {ok : Nat → Prop} {v : Value} {xs : List α} (h : IsS83 w0 W g f0 f1) (ho : d.R e W base ok v xs) (ht : e ≠ 83) : some g ≠ v.ownBlock := by
  obtain ⟨A0, c0, hb, hg, hr0⟩ := h
  exact Kd.R_ne ho hb ht
theorem IsS83.apartQ {w0 W : World} {g : Nat} {f0 : List Int} {f1 : Int} {α : Type} {d : Kd α} {e : Nat} {base : Nat} {ok : Nat → Prop} {v : Value} {xs : List α} (h : IsS83 w0 W g f0 f1) (ho : d.Q e W base ok v xs) (ht : ∀ q, q ∈ e :: d.E → q ≠ 83) : d.Q e W base (fun k => ok k ∧ k ≠ g) v xs := by
  obtain ⟨A0, c0, hb, hg, hr0⟩ := h
  exact Kd.Q_types ho hb ht
theorem IsS83.own_neQ {w0 W : World} {g : Nat} {f0 : List Int} {f1 : Int} {α : Type} {d : Kd α} {e : Nat} {base : Nat} {ok : Nat → Prop} {v : Value} {xs : List α} (h : IsS83 w0 W g f0 f1) (ho : d.Q e W base ok v xs) (ht : e ≠ 83) : some g ≠ v.ownBlock := by
  obtain ⟨A0, c0, hb, hg, hr0⟩ := h
  exact Kd.Q_ne ho hb ht
theorem IsS83.apartS {w0 W : World} {g : Nat} {f0 : List Int} {f1 : Int} {α : Type} {d : Kd α} {e : Nat} {base : Nat} {ok : Nat → Prop} {v : Value} {xs : List α} (h : IsS83 w0 W g f0 f1) (ho : d.S e W base ok v xs) (ht : ∀ q, q ∈ e :: d.E → q ≠ 83) : d.S e W base (fun k => ok k ∧ k ≠ g) v xs := by
  obtain ⟨A0, c0, hb, hg, hr0⟩ := h
  exact Kd.S_types ho hb ht
theorem IsS83.own_neS {w0 W : World} {g : Nat} {f0 : List Int} {f1 : Int} {α : Type} {d : Kd α} {e : Nat} {base : Nat} {ok : Nat → Prop} {v : Value} {xs : List α} (h : IsS83 w0 W g f0 f1) (ho : d.S e W base ok v xs) (ht : e ≠ 83) : some g ≠ v.ownBlock := by
  obtain ⟨A0, c0, hb, hg, hr0⟩ := h
  exact Kd.S_ne ho hb ht
theorem IsS83.lt {w0 W : World} {g : Nat} {f0 : List Int} {f1 : Int} (h : IsS83 w0 W g f0 f1) : g < W.heap.size := by
  obtain ⟨A0, c0, hb, hg, hr0⟩ := h
  exact blk_lt hb
theorem IsS83.ge {w0 W : World} {g : Nat} {f0 : List Int} {f1 : Int} (h : IsS83 w0 W g f0 f1) : w0.heap.size ≤ g := by
  obtain ⟨A0, c0, hb, hg, hr0⟩ := h
  exact hg
theorem IsS83.ne_blk {w0 W : World} {g : Nat} {f0 : List Int} {f1 : Int} {a : Nat} {cs : Array Value} {t : TypeId} {fr : Nat × Nat} (h : IsS83 w0 W g f0 f1) (hb2 : W.heap[a]? = some (.cells cs t fr)) (ht : t ≠ 83) : g ≠ a := by
  obtain ⟨A0, c0, hb, hg, hr0⟩ := h
  rintro rfl
  rw [hb] at hb2
  injection hb2 with hb2
  injection hb2 with _ ht2
  exact ht ht2.symm
theorem IsS83.far {w0 W : World} {g : Nat} {f0 : List Int} {f1 : Int} {p : Addr} (h : IsS83 w0 W g f0 f1) (hne : g ≠ p.block) (u : Value) : IsS83 w0 (W.setCell p u) g f0 f1 := by
  obtain ⟨A0, c0, hb, hg, hr0⟩ := h
  exact ⟨A0, c0, blk_far hb hne u, hg, hr0⟩
theorem cellS83_0 {W : World} {g : Nat} {A0 : Option Addr} {c0 : Nat} {f0 : List Int} {f1 : Int} (h : W.heap[g]? = some (.cells #[.slice A0 f0.length c0, .int .i64 f1] 83 (0, 0))) : W.cell? ⟨g, 0, none⟩ = some (.slice A0 f0.length c0) := (blk_cell h 0).trans rfl
theorem cellS83_1 {W : World} {g : Nat} {A0 : Option Addr} {c0 : Nat} {f0 : List Int} {f1 : Int} (h : W.heap[g]? = some (.cells #[.slice A0 f0.length c0, .int .i64 f1] 83 (0, 0))) : W.cell? ⟨g, 1, none⟩ = some (.int .i64 f1) := (blk_cell h 1).trans rfl
theorem IsS83.set_1 {w0 W : World} {g : Nat} {f0 : List Int} {f1 : Int} (h : IsS83 w0 W g f0 f1) (x : Int) : IsS83 w0 (W.setCell ⟨g, 1, none⟩ (.int .i64 x)) g f0 x := by
  obtain ⟨A0, c0, hb, hg, hr0⟩ := h
  exact ⟨A0, c0, by simpa using blk_set hb 1 (.int .i64 x), hg, hr0⟩
theorem IsS83.new (w0 W : World) (A0 : Option Addr) (c0 : Nat) (f0 : List Int) (f1 : Int) (hB : Below w0.heap.size w0 W) (hr0 : Kd.C (Kd.int .u8) w0 A0 f0.length f0) : IsS83 w0 (W.alloc (.cells #[.slice A0 f0.length c0, .int .i64 f1] 83)) W.heap.size f0 f1 := ⟨A0, c0, by simpa using heap_alloc_new W _, hB.size, hr0⟩

/-! ### spec_l6Open: function 51 -/
def spec_l6Open.f (l0 : List Int) : Option (List Int × Int) := if (l0.length : Int) > 2000 then (if 2000 ≤ (l0.length : Int) then (some (l0.take 2000, 0)) else (none)) else (some (l0, 0))
set_option maxHeartbeats 8000000 in
set_option maxRecDepth 100000 in
theorem spec_l6Open.calls (A0 : Option Addr) (c0 : Nat) (l0 : List Int) (r1 : List Int) (r2 : Int) (w0 w : World) (hB : Below w0.heap.size w0 w) (hr0 : Kd.C (Kd.int .u8) w0 A0 l0.length l0) (hc0 : l0.length ≤ c0) (h : spec_l6Open.f l0 = some (r1, r2)) :
    Calls Try.prog 51 #[.slice A0 l0.length c0] w fun e w' => ∃ g_ : Nat, e = .returned (.pointer (some ⟨g_, 0, none⟩)) ∧ IsS83 w0 w' g_ r1 r2 ∧ Below w0.heap.size w0 w' ∧ Below w.heap.size w w' := by
  have hu83 := Try.underlying83; have HR0 := Aside0.mk hr0; have HC0 := Aside0.mk hc0; clear hr0 hc0; have HBW := Aside0.mk (Below.refl w.heap.size w); have HW0 := Aside0.mk hB.size; have HB := Aside0.mk hB; clear hB; unfold spec_l6Open.f at h; have H := h; clear h
  by_cases c2 : (l0.length : Int) > 2000
  · rw [if_pos c2] at H
    have c2b0 : decide (2000 < (l0.length : Int)) = true := decide_eq_true c2; have c2b1 : decide (2000 < l0.length) = true := decide_eq_true (by omega); clear c2; obtain ⟨c3, H⟩ := ifN H; have c3b0 := eq_true c3; have c3b1 : decide (2000 ≤ (l0.length : Int)) = true := decide_eq_true c3; clear c3; simp only [Option.some.injEq, Prod.mk.injEq] at H; obtain ⟨rfl, rfl⟩ := H; obtain ⟨i04, hi04, _, hsz4, _⟩ := info_parts info5; obtain ⟨hcut4, hA4, hC4⟩ := print_take_of (P := Try.prog) (Value.int .u8) 0 22 5 .i64 Try.underlying22 hi04 hsz4 A0 c0 l0 2000 (by omega) (oD) HC0.out; have HR263 := Aside0.mk (Kd.C_of_reads (h1 := fun _ => rfl) (hA4 _ (Kd.reads_of_C HR0.out))); have HC263 := Aside0.mk hC4; clear hA4 hC4 hi04 hsz4; go_enter Try.func51, Try.ntmps51
    go_wp2_with (first | ((with_reducible refine gate_dst (N := 10) rfl ?_); refine boxE (N := 10) (cs := #[.slice A0 (l0.take 2000).length c0, .int .i64 0]) (t := 83) ?_; intro gb264 hg w5 hbox hb; replace HB := BS hb; have BK264 := Aside0.mk (hbox); have GW264 := Aside0.mk ((by rw [hg]; exact (below_size (by repeat (first | (with_reducible first | exact HBW.out | apply below_alloc | apply pw_below_drewN | apply below_drew1) | exact HBW.out))) : w.heap.size ≤ gb264)); have GE264 := Aside0.mk ((Nat.le_trans HW0.out (by rw [hg]; exact (below_size (by repeat (first | (with_reducible first | exact HBW.out | apply below_alloc | apply pw_below_drewN | apply below_drew1) | exact HBW.out))) : w.heap.size ≤ gb264) : w0.heap.size ≤ gb264)); replace HBW := Aside0.mk (below_step HBW.out hb); clear hb hbox hg))
    go_ret
    exact ⟨_, rfl, (show IsS83 w0 _ gb264 (l0.take 2000) 0 from ⟨_, _, U BK264.out, GE264.out, HR263.out⟩), BU, by repeat (first | (with_reducible first | exact HBW.out | apply below_alloc | apply pw_below_drewN | apply below_drew1 | refine below_set ?_ GW264.out) | exact HBW.out)⟩
  rw [if_neg c2] at H; have c2b0 : decide (2000 < (l0.length : Int)) = false := decide_eq_false c2; have c2b1 : decide (2000 < l0.length) = false := decide_eq_false (by omega); clear c2; simp only [Option.some.injEq, Prod.mk.injEq] at H; obtain ⟨rfl, rfl⟩ := H; go_enter Try.func51, Try.ntmps51
  go_wp2_with (first | ((with_reducible refine gate_dst (N := 10) rfl ?_); refine boxE (N := 10) (cs := #[.slice A0 l0.length c0, .int .i64 0]) (t := 83) ?_; intro gb265 hg w6 hbox hb; replace HB := BS hb; have BK265 := Aside0.mk (hbox); have GW265 := Aside0.mk ((by rw [hg]; exact (below_size (by repeat (first | (with_reducible first | exact HBW.out | apply below_alloc | apply pw_below_drewN | apply below_drew1) | exact HBW.out))) : w.heap.size ≤ gb265)); have GE265 := Aside0.mk ((Nat.le_trans HW0.out (by rw [hg]; exact (below_size (by repeat (first | (with_reducible first | exact HBW.out | apply below_alloc | apply pw_below_drewN | apply below_drew1) | exact HBW.out))) : w.heap.size ≤ gb265) : w0.heap.size ≤ gb265)); replace HBW := Aside0.mk (below_step HBW.out hb); clear hb hbox hg))
  go_ret
  exact ⟨_, rfl, (show IsS83 w0 _ gb265 l0 0 from ⟨_, _, U BK265.out, GE265.out, HR0.out⟩), BU, by repeat (first | (with_reducible first | exact HBW.out | apply below_alloc | apply pw_below_drewN | apply below_drew1 | refine below_set ?_ GW265.out) | exact HBW.out)⟩

/-! ### spec_l6In: function 86 -/
def spec_l6In.f (a0 : Int) (a1 : Int) (a2 : Int) : Option (Bool) := if a0 ≥ a1 then (some (decide (a0 ≤ a2))) else (some false)
set_option maxHeartbeats 8000000 in
set_option maxRecDepth 100000 in
theorem spec_l6In.calls (a0 : Int) (a1 : Int) (a2 : Int) (r : Bool) (w : World) (h : spec_l6In.f a0 a1 a2 = some r) :
    Calls Try.prog 86 #[.int .i64 a0, .int .i64 a1, .int .i64 a2] w fun e w' => e = .returned (.bool r) ∧ Drawn0 w w' := by
  unfold spec_l6In.f at h; have H := h; clear h
  by_cases c4 : a0 ≥ a1
  · rw [if_pos c4] at H
    have c4b0 : decide (a1 ≤ a0) = true := decide_eq_true c4; clear c4; obtain rfl := Option.some.inj H; go_enter Try.func86, Try.ntmps86
    go_wp2
    go_ret
    exact ⟨by first | rfl | (simp; done) | (simp [*]; done), by repeat (first | exact Drawn0.refl _ | apply Drawn0.step)⟩
  rw [if_neg c4] at H; have c4b0 : decide (a1 ≤ a0) = false := decide_eq_false c4; clear c4; obtain rfl := Option.some.inj H; go_enter Try.func86, Try.ntmps86
  go_wp2
  go_ret
  exact ⟨by first | rfl | (simp; done) | (simp [*]; done), by repeat (first | exact Drawn0.refl _ | apply Drawn0.step)⟩

/-! ### spec_FormValid: function 85 -/
def spec_FormValid.l0 : Nat → List Int → Int → Option (Bool)
  | 0, _, _ => none
  | k + 1, x0, x3 => if x3 < (x0.length : Int) then (if 0 ≤ x3 then (if (rd x0 x3) = 0 then (some false) else ((spec_l6In.f (rd x0 x3) (-30) 30).bind fun t268 => (if t268 = true then (spec_FormValid.l0 k x0 (wrap64 (x3 + 1))) else (some false)))) else (none)) else ((spec_l6In.f (x0.length : Int) 1 4).bind fun t269 => (some t269))
def spec_FormValid.f (k : Nat) (l0 : List Int) : Option (Bool) := spec_FormValid.l0 k l0 0
theorem spec_FormValid.mono_l : ∀ k, (∀ y0 y1, LeO (spec_FormValid.l0 k y0 y1) (spec_FormValid.l0 (k + 1) y0 y1))
  | 0 => fun _ _ r h => by simp [spec_FormValid.l0] at h
  | k + 1 => by
    have ih0 := spec_FormValid.mono_l k
    · intro y0 y1
      unfold spec_FormValid.l0
      repeat' first
      | (with_reducible exact ih0 _ _)
      | (with_reducible exact LeO.refl _)
      | (with_reducible exact LeO.none _)
      | (with_reducible refine LeO.ite ?_ ?_)
      | (with_reducible refine LeO.bind ?_ (fun _ => ?_))
      | exact ih0 _ _
      | exact LeO.none _
      | refine LeO.ite ?_ ?_
      | refine LeO.bind ?_ (fun _ => ?_)
theorem spec_FormValid.mono : ∀ a0 k, LeO (spec_FormValid.f k a0) (spec_FormValid.f (k + 1) a0) := by
  intro a0 k
  have ih0 := spec_FormValid.mono_l k
  unfold spec_FormValid.f
  repeat' first
      | (with_reducible exact ih0 _ _)
      | (with_reducible exact LeO.refl _)
      | (with_reducible exact LeO.none _)
      | (with_reducible refine LeO.ite ?_ ?_)
      | (with_reducible refine LeO.bind ?_ (fun _ => ?_))
      | exact ih0 _ _
      | exact LeO.none _
      | refine LeO.ite ?_ ?_
      | refine LeO.bind ?_ (fun _ => ?_)
set_option maxHeartbeats 8000000 in
set_option maxRecDepth 100000 in
theorem spec_FormValid.calls (k : Nat) (A0 : Option Addr) (c0 : Nat) (l0 : List Int) (r : Bool) (w : World) (hr0 : Kd.C (Kd.int .i64) w A0 l0.length l0) (hc0 : l0.length ≤ c0) (h : spec_FormValid.f k l0 = some r) :
    Calls Try.prog 85 #[.slice A0 l0.length c0] w fun e w' => e = .returned (.bool r) ∧ Drawn0 w w' := by
  have HR0 := Aside0.mk hr0; have HC0 := Aside0.mk hc0; clear hr0 hc0; unfold spec_FormValid.f at h; have H := h; clear h; have H' := Aside0.mk H; clear H; go_enter Try.func85, Try.ntmps85
  go_wp2
  go_loopg [3] k (fun kq v3 w' => ∃ (x3_1 : Int), v3 = .int .i64 x3_1 ∧ Aside0 (spec_FormValid.l0 kq l0 x3_1 = some r) ∧ Aside0 (kq ≤ k) ∧ Drawn0 w w')
  case atStart => exact ⟨(0), sR, H', ⟨Nat.le_refl _⟩, by repeat (first | exact Drawn0.refl _ | apply Drawn0.step)⟩
  case round =>
    clear H'; obtain ⟨x3_1, rfl, HA, HK1, ⟨m1, rfl⟩⟩ := hrel; cases gk with
    | zero => exact absurd HA.out (by simp [spec_FormValid.l0])
    | succ k1 =>
      have H := HA.out; clear HA; simp only [spec_FormValid.l0] at H
      by_cases c2 : x3_1 < (l0.length : Int)
      · rw [if_pos c2] at H
        have c2b0 : decide (x3_1 < (l0.length : Int)) = true := decide_eq_true c2; clear c2; obtain ⟨c3, H⟩ := ifN H; have c3b0 : decide (0 ≤ x3_1) = true := decide_eq_true c3; clear c3
        by_cases c4 : (rd l0 x3_1) = 0
        · rw [if_pos c4] at H
          have c4b0 : ((rd l0 x3_1) == 0) = true := beq_iff_eq.mpr c4; have c4b1 : ((rd l0 x3_1) != 0) = false := bne_eq_false_iff_eq.mpr c4; clear c4; obtain rfl := Option.some.inj H; have p266 : 0 ≤ (x3_1 : Int) := oD; have q266 : x3_1 < (l0.length : Int) := oD; obtain ⟨ad266, e266, hx266_0⟩ := Kd.at_int HR0.out x3_1 p266 q266; cases e266; replace p266 := eq_true p266; replace q266 := eq_true q266
          go_wp2
          go_ret
          exact ⟨by first | rfl | (simp; done) | (simp [*]; done), by repeat (first | exact Drawn0.refl _ | apply Drawn0.step)⟩
        rw [if_neg c4] at H; have c4b0 : ((rd l0 x3_1) == 0) = false := beq_eq_false_iff_ne.mpr c4; have c4b1 : ((rd l0 x3_1) != 0) = true := bne_iff_ne.mpr c4; obtain ⟨t268, A5, H⟩ := bnd H
        by_cases c6 : t268 = true
        · subst c6
          replace H := ifT H; have H' := Aside0.mk H; clear H; have p266 : 0 ≤ (x3_1 : Int) := oD; have q266 : x3_1 < (l0.length : Int) := oD; obtain ⟨ad266, e266, hx266_0⟩ := Kd.at_int HR0.out x3_1 p266 q266; cases e266; replace p266 := eq_true p266; replace q266 := eq_true q266; have p267 : 0 ≤ (x3_1 : Int) := oD; have q267 : x3_1 < (l0.length : Int) := oD; obtain ⟨ad267, e267, hx267_0⟩ := Kd.at_int HR0.out x3_1 p267 q267; obtain rfl : ad266 = ad267 := (by injection e267); replace p267 := eq_true p267; replace q267 := eq_true q267
          go_wp2_with (first | (go_at_call 86; (with_reducible refine (spec_l6In.calls (rd l0 x3_1) (-30) 30 true _ A5.out).mono ?_); rintro e w' ⟨rfl, ⟨nd, rfl⟩⟩))
          go_roundg k1
          case measure => have := HK1.out; omega
          case rel => exact ⟨(wrap64 (x3_1 + 1)), sR, H', ⟨by have := HK1.out; omega⟩, by repeat (first | exact Drawn0.refl _ | apply Drawn0.step)⟩
        replace c6 := Bool.eq_false_iff.mpr c6; subst c6; replace H := ifF H; obtain rfl := Option.some.inj H; have p266 : 0 ≤ (x3_1 : Int) := oD; have q266 : x3_1 < (l0.length : Int) := oD; obtain ⟨ad266, e266, hx266_0⟩ := Kd.at_int HR0.out x3_1 p266 q266; cases e266; replace p266 := eq_true p266; replace q266 := eq_true q266; have p267 : 0 ≤ (x3_1 : Int) := oD; have q267 : x3_1 < (l0.length : Int) := oD; obtain ⟨ad267, e267, hx267_0⟩ := Kd.at_int HR0.out x3_1 p267 q267; obtain rfl : ad266 = ad267 := (by injection e267); replace p267 := eq_true p267; replace q267 := eq_true q267
        go_wp2_with (first | (go_at_call 86; (with_reducible refine (spec_l6In.calls (rd l0 x3_1) (-30) 30 false _ A5.out).mono ?_); rintro e w' ⟨rfl, ⟨nd, rfl⟩⟩))
        go_ret
        exact ⟨by first | rfl | (simp; done) | (simp [*]; done), by repeat (first | exact Drawn0.refl _ | apply Drawn0.step)⟩
      rw [if_neg c2] at H; have c2b0 : decide (x3_1 < (l0.length : Int)) = false := decide_eq_false c2; clear c2; obtain ⟨t269, A7, H⟩ := bnd H; obtain rfl := Option.some.inj H
      go_wp2_with (first | ((with_reducible refine gate_callee (f := 86) rfl ?_); refine goesK (some 25) Try.func86 #[.int .i64 (l0.length : Int), .int .i64 1, .int .i64 4] ?_; (with_reducible refine (spec_l6In.calls (l0.length : Int) 1 4 t269 _ A7.out).mono ?_); rintro e w' ⟨rfl, ⟨nd, rfl⟩⟩; refine ⟨_, rfl, ?_⟩))
      go_ret
      exact ⟨by first | rfl | (simp; done) | (simp [*]; done), by repeat (first | exact Drawn0.refl _ | apply Drawn0.step)⟩

end Go.Proofs.Ytnbeeogmaamgdaa.PFnMove
