-- Written by a program of this session (wip/print2.py): the functions that the law reaches, plain, and the walks.
import Derived.Test.YtpaohkhmhdhibaaPFnConicManyx0
import Derived.Test.YtpaohkhmhdhibaaPFnConicManyx1
import Derived.Test.YtpaohkhmhdhibaaPFnConicManyx2
namespace Go.Proofs.Ytpaohkhmhdhibaa.PFnConicMany
open Go.RowKit Go.Proofs.YtpaohkhmhdhibaaW.PrintWords Go.Proofs.YtpaohkhmhdhibaaW.PrintLast Go.Proofs.YtpaohkhmhdhibaaW.PrintMore
attribute [local go_sem] max2_int min2_int max_two min_two max_three min_three max_four min_four   -- for this text's walks alone
set_option linter.unusedVariables false
set_option linter.unusedSimpArgs false

/-! ### impl_collinear: function 38 -/
def impl_collinear.f (l0 : List Int) (l1 : List Int) : Option (Bool) := if 0 < (l0.length : Int) then (if 1 < (l1.length : Int) then (if 1 < (l0.length : Int) then (if 0 < (l1.length : Int) then (if (wrap64 ((rd l0 0) * (rd l1 1))) = (wrap64 ((rd l0 1) * (rd l1 0))) then (if 2 < (l1.length : Int) then (if 2 < (l0.length : Int) then (if (wrap64 ((rd l0 0) * (rd l1 2))) = (wrap64 ((rd l0 2) * (rd l1 0))) then (some ((wrap64 ((rd l0 1) * (rd l1 2))) == (wrap64 ((rd l0 2) * (rd l1 1))))) else (some false)) else (none)) else (none)) else (some false)) else (none)) else (none)) else (none)) else (none)
set_option maxHeartbeats 8000000 in
set_option maxRecDepth 100000 in
theorem impl_collinear.calls (A0 : Option Addr) (c0 : Nat) (l0 : List Int) (A1 : Option Addr) (c1 : Nat) (l1 : List Int) (r : Bool) (w : World) (hr0 : Kd.C (Kd.int .i64) w A0 l0.length l0) (hc0 : l0.length ≤ c0) (hr1 : Kd.C (Kd.int .i64) w A1 l1.length l1) (hc1 : l1.length ≤ c1) (h : impl_collinear.f l0 l1 = some r) :
    Calls Try.prog 38 #[.slice A0 l0.length c0, .slice A1 l1.length c1] w fun e w' => e = .returned (.bool r) ∧ Drawn0 w w' := by
  have HR0 := Aside0.mk hr0; have HC0 := Aside0.mk hc0; clear hr0 hc0; have HR1 := Aside0.mk hr1; have HC1 := Aside0.mk hc1; clear hr1 hc1; unfold impl_collinear.f at h; have H := h; clear h; obtain ⟨c3, H⟩ := ifN H; have c3b0 : decide (0 < (l0.length : Int)) = true := decide_eq_true c3; have c3b1 : decide (0 < l0.length) = true := decide_eq_true (by omega); clear c3; obtain ⟨c4, H⟩ := ifN H; have c4b0 : decide (1 < (l1.length : Int)) = true := decide_eq_true c4; have c4b1 : decide (1 < l1.length) = true := decide_eq_true (by omega); clear c4; obtain ⟨c5, H⟩ := ifN H; have c5b0 : decide (1 < (l0.length : Int)) = true := decide_eq_true c5; have c5b1 : decide (1 < l0.length) = true := decide_eq_true (by omega); clear c5; obtain ⟨c6, H⟩ := ifN H; have c6b0 : decide (0 < (l1.length : Int)) = true := decide_eq_true c6; have c6b1 : decide (0 < l1.length) = true := decide_eq_true (by omega); clear c6
  by_cases c7 : (wrap64 ((rd l0 0) * (rd l1 1))) = (wrap64 ((rd l0 1) * (rd l1 0)))
  · rw [if_pos c7] at H
    have c7b0 : ((wrap64 ((rd l0 0) * (rd l1 1))) == (wrap64 ((rd l0 1) * (rd l1 0)))) = true := beq_iff_eq.mpr c7; have c7b1 : ((wrap64 ((rd l0 0) * (rd l1 1))) != (wrap64 ((rd l0 1) * (rd l1 0)))) = false := bne_eq_false_iff_eq.mpr c7; clear c7; obtain ⟨c8, H⟩ := ifN H; have c8b0 : decide (2 < (l1.length : Int)) = true := decide_eq_true c8; have c8b1 : decide (2 < l1.length) = true := decide_eq_true (by omega); clear c8; obtain ⟨c9, H⟩ := ifN H; have c9b0 : decide (2 < (l0.length : Int)) = true := decide_eq_true c9; have c9b1 : decide (2 < l0.length) = true := decide_eq_true (by omega); clear c9
    by_cases c10 : (wrap64 ((rd l0 0) * (rd l1 2))) = (wrap64 ((rd l0 2) * (rd l1 0)))
    · rw [if_pos c10] at H
      have c10b0 : ((wrap64 ((rd l0 0) * (rd l1 2))) == (wrap64 ((rd l0 2) * (rd l1 0)))) = true := beq_iff_eq.mpr c10; have c10b1 : ((wrap64 ((rd l0 0) * (rd l1 2))) != (wrap64 ((rd l0 2) * (rd l1 0)))) = false := bne_eq_false_iff_eq.mpr c10; clear c10; obtain rfl := Option.some.inj H; have p130 : 0 ≤ (0 : Int) := (by omega); have q130 : 0 < (l0.length : Int) := oD; obtain ⟨ad130, e130, hx130_0⟩ := Kd.at_int HR0.out 0 p130 q130; cases e130; have qi130 : (0 < l0.length) = True := eq_true (by omega)
      (try rw [show ((0 : Int)).toNat = 0 from rfl] at hx130_0)
      (try rw [Addr.add_zero'] at hx130_0)
      replace p130 := eq_true p130; replace q130 := eq_true q130; have p131 : 0 ≤ (1 : Int) := (by omega); have q131 : 1 < (l1.length : Int) := oD; obtain ⟨ad131, e131, hx131_0⟩ := Kd.at_int HR1.out 1 p131 q131; cases e131
      (try simp only [show (1 : Int).toNat = 1 from rfl, Nat.reduceMul, Nat.reduceEqDiff, Go.Addr.add, ↓reduceIte] at hx131_0)
      have qi131 : (1 < l1.length) = True := eq_true (by omega)
      (try rw [show ((1 : Int)).toNat = 1 from rfl] at hx131_0)
      replace p131 := eq_true p131; replace q131 := eq_true q131; have p132 : 0 ≤ (1 : Int) := (by omega); have q132 : 1 < (l0.length : Int) := oD; obtain ⟨ad132, e132, hx132_0⟩ := Kd.at_int HR0.out 1 p132 q132; obtain rfl : ad130 = ad132 := (by injection e132)
      (try simp only [show (1 : Int).toNat = 1 from rfl, Nat.reduceMul, Nat.reduceEqDiff, Go.Addr.add, ↓reduceIte] at hx132_0)
      have qi132 : (1 < l0.length) = True := eq_true (by omega)
      (try rw [show ((1 : Int)).toNat = 1 from rfl] at hx132_0)
      replace p132 := eq_true p132; replace q132 := eq_true q132; have p133 : 0 ≤ (0 : Int) := (by omega); have q133 : 0 < (l1.length : Int) := oD; obtain ⟨ad133, e133, hx133_0⟩ := Kd.at_int HR1.out 0 p133 q133; obtain rfl : ad131 = ad133 := (by injection e133); have qi133 : (0 < l1.length) = True := eq_true (by omega)
      (try rw [show ((0 : Int)).toNat = 0 from rfl] at hx133_0)
      (try rw [Addr.add_zero'] at hx133_0)
      replace p133 := eq_true p133; replace q133 := eq_true q133; have p134 : 0 ≤ (0 : Int) := (by omega); have q134 : 0 < (l0.length : Int) := oD; obtain ⟨ad134, e134, hx134_0⟩ := Kd.at_int HR0.out 0 p134 q134; obtain rfl : ad130 = ad134 := (by injection e134); have qi134 : (0 < l0.length) = True := eq_true (by omega)
      (try rw [show ((0 : Int)).toNat = 0 from rfl] at hx134_0)
      (try rw [Addr.add_zero'] at hx134_0)
      replace p134 := eq_true p134; replace q134 := eq_true q134; have p135 : 0 ≤ (2 : Int) := (by omega); have q135 : 2 < (l1.length : Int) := oD; obtain ⟨ad135, e135, hx135_0⟩ := Kd.at_int HR1.out 2 p135 q135; obtain rfl : ad131 = ad135 := (by injection e135)
      (try simp only [show (2 : Int).toNat = 2 from rfl, Nat.reduceMul, Nat.reduceEqDiff, Go.Addr.add, ↓reduceIte] at hx135_0)
      have qi135 : (2 < l1.length) = True := eq_true (by omega)
      (try rw [show ((2 : Int)).toNat = 2 from rfl] at hx135_0)
      replace p135 := eq_true p135; replace q135 := eq_true q135; have p136 : 0 ≤ (2 : Int) := (by omega); have q136 : 2 < (l0.length : Int) := oD; obtain ⟨ad136, e136, hx136_0⟩ := Kd.at_int HR0.out 2 p136 q136; obtain rfl : ad130 = ad136 := (by injection e136)
      (try simp only [show (2 : Int).toNat = 2 from rfl, Nat.reduceMul, Nat.reduceEqDiff, Go.Addr.add, ↓reduceIte] at hx136_0)
      have qi136 : (2 < l0.length) = True := eq_true (by omega)
      (try rw [show ((2 : Int)).toNat = 2 from rfl] at hx136_0)
      replace p136 := eq_true p136; replace q136 := eq_true q136; have p137 : 0 ≤ (0 : Int) := (by omega); have q137 : 0 < (l1.length : Int) := oD; obtain ⟨ad137, e137, hx137_0⟩ := Kd.at_int HR1.out 0 p137 q137; obtain rfl : ad131 = ad137 := (by injection e137); have qi137 : (0 < l1.length) = True := eq_true (by omega)
      (try rw [show ((0 : Int)).toNat = 0 from rfl] at hx137_0)
      (try rw [Addr.add_zero'] at hx137_0)
      replace p137 := eq_true p137; replace q137 := eq_true q137; have p138 : 0 ≤ (1 : Int) := (by omega); have q138 : 1 < (l0.length : Int) := oD; obtain ⟨ad138, e138, hx138_0⟩ := Kd.at_int HR0.out 1 p138 q138; obtain rfl : ad130 = ad138 := (by injection e138)
      (try simp only [show (1 : Int).toNat = 1 from rfl, Nat.reduceMul, Nat.reduceEqDiff, Go.Addr.add, ↓reduceIte] at hx138_0)
      have qi138 : (1 < l0.length) = True := eq_true (by omega)
      (try rw [show ((1 : Int)).toNat = 1 from rfl] at hx138_0)
      replace p138 := eq_true p138; replace q138 := eq_true q138; have p139 : 0 ≤ (2 : Int) := (by omega); have q139 : 2 < (l1.length : Int) := oD; obtain ⟨ad139, e139, hx139_0⟩ := Kd.at_int HR1.out 2 p139 q139; obtain rfl : ad131 = ad139 := (by injection e139)
      (try simp only [show (2 : Int).toNat = 2 from rfl, Nat.reduceMul, Nat.reduceEqDiff, Go.Addr.add, ↓reduceIte] at hx139_0)
      have qi139 : (2 < l1.length) = True := eq_true (by omega)
      (try rw [show ((2 : Int)).toNat = 2 from rfl] at hx139_0)
      replace p139 := eq_true p139; replace q139 := eq_true q139; have p140 : 0 ≤ (2 : Int) := (by omega); have q140 : 2 < (l0.length : Int) := oD; obtain ⟨ad140, e140, hx140_0⟩ := Kd.at_int HR0.out 2 p140 q140; obtain rfl : ad130 = ad140 := (by injection e140)
      (try simp only [show (2 : Int).toNat = 2 from rfl, Nat.reduceMul, Nat.reduceEqDiff, Go.Addr.add, ↓reduceIte] at hx140_0)
      have qi140 : (2 < l0.length) = True := eq_true (by omega)
      (try rw [show ((2 : Int)).toNat = 2 from rfl] at hx140_0)
      replace p140 := eq_true p140; replace q140 := eq_true q140; have p141 : 0 ≤ (1 : Int) := (by omega); have q141 : 1 < (l1.length : Int) := oD; obtain ⟨ad141, e141, hx141_0⟩ := Kd.at_int HR1.out 1 p141 q141; obtain rfl : ad131 = ad141 := (by injection e141)
      (try simp only [show (1 : Int).toNat = 1 from rfl, Nat.reduceMul, Nat.reduceEqDiff, Go.Addr.add, ↓reduceIte] at hx141_0)
      have qi141 : (1 < l1.length) = True := eq_true (by omega)
      (try rw [show ((1 : Int)).toNat = 1 from rfl] at hx141_0)
      replace p141 := eq_true p141; replace q141 := eq_true q141; go_enter Try.func38, Try.ntmps38
      go_wp2
      repeat (go_quiet (fail); try go_wp2)
      go_ret
      exact ⟨by first | rfl | (simp; done) | (simp [*]; done), by repeat (first | exact Drawn0.refl _ | apply Drawn0.step)⟩
    rw [if_neg c10] at H; have c10b0 : ((wrap64 ((rd l0 0) * (rd l1 2))) == (wrap64 ((rd l0 2) * (rd l1 0)))) = false := beq_eq_false_iff_ne.mpr c10; have c10b1 : ((wrap64 ((rd l0 0) * (rd l1 2))) != (wrap64 ((rd l0 2) * (rd l1 0)))) = true := bne_iff_ne.mpr c10; obtain rfl := Option.some.inj H; have p130 : 0 ≤ (0 : Int) := (by omega); have q130 : 0 < (l0.length : Int) := oD; obtain ⟨ad130, e130, hx130_0⟩ := Kd.at_int HR0.out 0 p130 q130; cases e130; have qi130 : (0 < l0.length) = True := eq_true (by omega)
    (try rw [show ((0 : Int)).toNat = 0 from rfl] at hx130_0)
    (try rw [Addr.add_zero'] at hx130_0)
    replace p130 := eq_true p130; replace q130 := eq_true q130; have p131 : 0 ≤ (1 : Int) := (by omega); have q131 : 1 < (l1.length : Int) := oD; obtain ⟨ad131, e131, hx131_0⟩ := Kd.at_int HR1.out 1 p131 q131; cases e131
    (try simp only [show (1 : Int).toNat = 1 from rfl, Nat.reduceMul, Nat.reduceEqDiff, Go.Addr.add, ↓reduceIte] at hx131_0)
    have qi131 : (1 < l1.length) = True := eq_true (by omega)
    (try rw [show ((1 : Int)).toNat = 1 from rfl] at hx131_0)
    replace p131 := eq_true p131; replace q131 := eq_true q131; have p132 : 0 ≤ (1 : Int) := (by omega); have q132 : 1 < (l0.length : Int) := oD; obtain ⟨ad132, e132, hx132_0⟩ := Kd.at_int HR0.out 1 p132 q132; obtain rfl : ad130 = ad132 := (by injection e132)
    (try simp only [show (1 : Int).toNat = 1 from rfl, Nat.reduceMul, Nat.reduceEqDiff, Go.Addr.add, ↓reduceIte] at hx132_0)
    have qi132 : (1 < l0.length) = True := eq_true (by omega)
    (try rw [show ((1 : Int)).toNat = 1 from rfl] at hx132_0)
    replace p132 := eq_true p132; replace q132 := eq_true q132; have p133 : 0 ≤ (0 : Int) := (by omega); have q133 : 0 < (l1.length : Int) := oD; obtain ⟨ad133, e133, hx133_0⟩ := Kd.at_int HR1.out 0 p133 q133; obtain rfl : ad131 = ad133 := (by injection e133); have qi133 : (0 < l1.length) = True := eq_true (by omega)
    (try rw [show ((0 : Int)).toNat = 0 from rfl] at hx133_0)
    (try rw [Addr.add_zero'] at hx133_0)
    replace p133 := eq_true p133; replace q133 := eq_true q133; have p134 : 0 ≤ (0 : Int) := (by omega); have q134 : 0 < (l0.length : Int) := oD; obtain ⟨ad134, e134, hx134_0⟩ := Kd.at_int HR0.out 0 p134 q134; obtain rfl : ad130 = ad134 := (by injection e134); have qi134 : (0 < l0.length) = True := eq_true (by omega)
    (try rw [show ((0 : Int)).toNat = 0 from rfl] at hx134_0)
    (try rw [Addr.add_zero'] at hx134_0)
    replace p134 := eq_true p134; replace q134 := eq_true q134; have p135 : 0 ≤ (2 : Int) := (by omega); have q135 : 2 < (l1.length : Int) := oD; obtain ⟨ad135, e135, hx135_0⟩ := Kd.at_int HR1.out 2 p135 q135; obtain rfl : ad131 = ad135 := (by injection e135)
    (try simp only [show (2 : Int).toNat = 2 from rfl, Nat.reduceMul, Nat.reduceEqDiff, Go.Addr.add, ↓reduceIte] at hx135_0)
    have qi135 : (2 < l1.length) = True := eq_true (by omega)
    (try rw [show ((2 : Int)).toNat = 2 from rfl] at hx135_0)
    replace p135 := eq_true p135; replace q135 := eq_true q135; have p136 : 0 ≤ (2 : Int) := (by omega); have q136 : 2 < (l0.length : Int) := oD; obtain ⟨ad136, e136, hx136_0⟩ := Kd.at_int HR0.out 2 p136 q136; obtain rfl : ad130 = ad136 := (by injection e136)
    (try simp only [show (2 : Int).toNat = 2 from rfl, Nat.reduceMul, Nat.reduceEqDiff, Go.Addr.add, ↓reduceIte] at hx136_0)
    have qi136 : (2 < l0.length) = True := eq_true (by omega)
    (try rw [show ((2 : Int)).toNat = 2 from rfl] at hx136_0)
    replace p136 := eq_true p136; replace q136 := eq_true q136; have p137 : 0 ≤ (0 : Int) := (by omega); have q137 : 0 < (l1.length : Int) := oD; obtain ⟨ad137, e137, hx137_0⟩ := Kd.at_int HR1.out 0 p137 q137; obtain rfl : ad131 = ad137 := (by injection e137); have qi137 : (0 < l1.length) = True := eq_true (by omega)
    (try rw [show ((0 : Int)).toNat = 0 from rfl] at hx137_0)
    (try rw [Addr.add_zero'] at hx137_0)
    replace p137 := eq_true p137; replace q137 := eq_true q137; go_enter Try.func38, Try.ntmps38
    go_wp2
    repeat (go_quiet (fail); try go_wp2)
    go_ret
    exact ⟨by first | rfl | (simp; done) | (simp [*]; done), by repeat (first | exact Drawn0.refl _ | apply Drawn0.step)⟩
  rw [if_neg c7] at H; have c7b0 : ((wrap64 ((rd l0 0) * (rd l1 1))) == (wrap64 ((rd l0 1) * (rd l1 0)))) = false := beq_eq_false_iff_ne.mpr c7; have c7b1 : ((wrap64 ((rd l0 0) * (rd l1 1))) != (wrap64 ((rd l0 1) * (rd l1 0)))) = true := bne_iff_ne.mpr c7; obtain rfl := Option.some.inj H; have p130 : 0 ≤ (0 : Int) := (by omega); have q130 : 0 < (l0.length : Int) := oD; obtain ⟨ad130, e130, hx130_0⟩ := Kd.at_int HR0.out 0 p130 q130; cases e130; have qi130 : (0 < l0.length) = True := eq_true (by omega)
  (try rw [show ((0 : Int)).toNat = 0 from rfl] at hx130_0)
  (try rw [Addr.add_zero'] at hx130_0)
  replace p130 := eq_true p130; replace q130 := eq_true q130; have p131 : 0 ≤ (1 : Int) := (by omega); have q131 : 1 < (l1.length : Int) := oD; obtain ⟨ad131, e131, hx131_0⟩ := Kd.at_int HR1.out 1 p131 q131; cases e131
  (try simp only [show (1 : Int).toNat = 1 from rfl, Nat.reduceMul, Nat.reduceEqDiff, Go.Addr.add, ↓reduceIte] at hx131_0)
  have qi131 : (1 < l1.length) = True := eq_true (by omega)
  (try rw [show ((1 : Int)).toNat = 1 from rfl] at hx131_0)
  replace p131 := eq_true p131; replace q131 := eq_true q131; have p132 : 0 ≤ (1 : Int) := (by omega); have q132 : 1 < (l0.length : Int) := oD; obtain ⟨ad132, e132, hx132_0⟩ := Kd.at_int HR0.out 1 p132 q132; obtain rfl : ad130 = ad132 := (by injection e132)
  (try simp only [show (1 : Int).toNat = 1 from rfl, Nat.reduceMul, Nat.reduceEqDiff, Go.Addr.add, ↓reduceIte] at hx132_0)
  have qi132 : (1 < l0.length) = True := eq_true (by omega)
  (try rw [show ((1 : Int)).toNat = 1 from rfl] at hx132_0)
  replace p132 := eq_true p132; replace q132 := eq_true q132; have p133 : 0 ≤ (0 : Int) := (by omega); have q133 : 0 < (l1.length : Int) := oD; obtain ⟨ad133, e133, hx133_0⟩ := Kd.at_int HR1.out 0 p133 q133; obtain rfl : ad131 = ad133 := (by injection e133); have qi133 : (0 < l1.length) = True := eq_true (by omega)
  (try rw [show ((0 : Int)).toNat = 0 from rfl] at hx133_0)
  (try rw [Addr.add_zero'] at hx133_0)
  replace p133 := eq_true p133; replace q133 := eq_true q133; go_enter Try.func38, Try.ntmps38
  go_wp2
  repeat (go_quiet (fail); try go_wp2)
  go_ret
  exact ⟨by first | rfl | (simp; done) | (simp [*]; done), by repeat (first | exact Drawn0.refl _ | apply Drawn0.step)⟩

/-! ### impl_ConicOther: function 17 -/
mutual
def impl_ConicOther.j0 : Nat → List Int → List Int → List Int → Bool → Option (List Int × Bool)
  | 0, _, _, _, _ => none
  | k + 1, x0, x1, x2, x26 => if x26 = true then (some (([] : List Int), false)) else ((impl_pair.f k x0 x2 x2).bind fun t145 => ((impl_pair.f k x0 x1 x2).bind fun t146 => (impl_ConicOther.l0 k x0 x1 x2 t145 t146 (([] : List Int)) (x1.length : Int) 0)))
def impl_ConicOther.l0 : Nat → List Int → List Int → List Int → Int → Int → List Int → Int → Int → Option (List Int × Bool)
  | 0, _, _, _, _, _, _, _, _ => none
  | k + 1, x0, x1, x2, x8, x9, x10, x37, x38 => if x38 < x37 then (if 0 ≤ x38 then (if x38 < (x1.length : Int) then (if x38 < (x2.length : Int) then (if x10.length < 17592186044416 then (impl_ConicOther.l0 k x0 x1 x2 x8 x9 (x10 ++ [wrap64 ((wrap64 (x8 * (rd x1 x38))) - (wrap64 ((wrap64 (2 * x9)) * (rd x2 x38))))]) x37 (wrap64 (x38 + 1))) else (none)) else (none)) else (none)) else (none)) else ((impl_plain.f k x10).bind fun t155 => ((impl_vectorOk.f k x0 t155 1000000).bind fun t158 => (if t158 = true then (some (t155, true)) else (some (([] : List Int), false)))))
end
def impl_ConicOther.f (k : Nat) (l0 : List Int) (l1 : List Int) (l2 : List Int) : Option (List Int × Bool) := (impl_ConicPoint.f k l0 l1).bind fun t142 => (if t142 = true then ((impl_vectorOk.f k l0 l2 20).bind fun t143 => (if t143 = true then ((impl_collinear.f l1 l2).bind fun t144 => (impl_ConicOther.j0 k l0 l1 l2 t144)) else (impl_ConicOther.j0 k l0 l1 l2 true))) else (impl_ConicOther.j0 k l0 l1 l2 true))
theorem impl_ConicOther.mono_l : ∀ k, (∀ y0 y1 y2 y3, LeO (impl_ConicOther.j0 k y0 y1 y2 y3) (impl_ConicOther.j0 (k + 1) y0 y1 y2 y3)) ∧ (∀ y0 y1 y2 y3 y4 y5 y6 y7, LeO (impl_ConicOther.l0 k y0 y1 y2 y3 y4 y5 y6 y7) (impl_ConicOther.l0 (k + 1) y0 y1 y2 y3 y4 y5 y6 y7))
  | 0 => ⟨fun _ _ _ _ r h => by simp [impl_ConicOther.j0] at h, fun _ _ _ _ _ _ _ _ r h => by simp [impl_ConicOther.l0] at h⟩
  | k + 1 => by
    obtain ⟨ih0, ih1⟩ := impl_ConicOther.mono_l k
    refine ⟨?_, ?_⟩ <;> intros <;> (first | unfold impl_ConicOther.j0 | unfold impl_ConicOther.l0) <;> (repeat' first
      | (with_reducible exact ih0 _ _ _ _)
      | (with_reducible exact ih1 _ _ _ _ _ _ _ _)
      | (with_reducible exact impl_ConicPoint.mono _ _ _)
      | (with_reducible exact impl_pair.mono _ _ _ _)
      | (with_reducible exact impl_plain.mono _ _)
      | (with_reducible exact impl_vectorOk.mono _ _ _ _)
      | (with_reducible exact LeO.refl _)
      | (with_reducible exact LeO.none _)
      | (with_reducible refine LeO.ite ?_ ?_)
      | (with_reducible refine LeO.bind ?_ (fun _ => ?_))
      | exact ih0 _ _ _ _
      | exact ih1 _ _ _ _ _ _ _ _
      | exact impl_ConicPoint.mono _ _ _
      | exact impl_pair.mono _ _ _ _
      | exact impl_plain.mono _ _
      | exact impl_vectorOk.mono _ _ _ _
      | exact LeO.none _
      | refine LeO.ite ?_ ?_
      | refine LeO.bind ?_ (fun _ => ?_))
theorem impl_ConicOther.mono : ∀ a0 a1 a2 k, LeO (impl_ConicOther.f k a0 a1 a2) (impl_ConicOther.f (k + 1) a0 a1 a2) := by
  intro a0 a1 a2 k
  obtain ⟨ih0, ih1⟩ := impl_ConicOther.mono_l k
  unfold impl_ConicOther.f
  repeat' first
      | (with_reducible exact ih0 _ _ _ _)
      | (with_reducible exact ih1 _ _ _ _ _ _ _ _)
      | (with_reducible exact impl_ConicPoint.mono _ _ _)
      | (with_reducible exact impl_pair.mono _ _ _ _)
      | (with_reducible exact impl_plain.mono _ _)
      | (with_reducible exact impl_vectorOk.mono _ _ _ _)
      | (with_reducible exact LeO.refl _)
      | (with_reducible exact LeO.none _)
      | (with_reducible refine LeO.ite ?_ ?_)
      | (with_reducible refine LeO.bind ?_ (fun _ => ?_))
      | exact ih0 _ _ _ _
      | exact ih1 _ _ _ _ _ _ _ _
      | exact impl_ConicPoint.mono _ _ _
      | exact impl_pair.mono _ _ _ _
      | exact impl_plain.mono _ _
      | exact impl_vectorOk.mono _ _ _ _
      | exact LeO.none _
      | refine LeO.ite ?_ ?_
      | refine LeO.bind ?_ (fun _ => ?_)
def impl_ConicOther.T8 : Bool × List (List Nat × List Nat) := (true, [([], []), ([], []), ([], []), ([], []), ([2, 3], [2, 3]), ([4], [4]), ([1, 5], [1, 5]), ([], []), ([7], [7]), ([], []), ([], []), ([9, 10], [9, 10]), ([11], [11]), ([8, 12], [8, 12]), ([6, 13], [6, 13]), ([14], [14]), ([0, 15], [0, 15]), ([16, 16, 0, 1, 2, 3, 4, 5, 6, 7, 8, 9, 10, 11, 12, 13, 14, 15, 16], [0, 16])])
def impl_ConicOther.B8 : List Nat := [0, 0, 0, 0, 12, 28, 62, 0, 128, 0, 0, 1536, 3584, 8064, 16382, 32766, 65535, 131071]
theorem impl_ConicOther.tab8 : rtab .any (opsOf Try.f17 8) = impl_ConicOther.T8 := by kernel_rfl
theorem impl_ConicOther.bits8 : waitsOk impl_ConicOther.T8.2 impl_ConicOther.B8 = true := by kernel_rfl
set_option maxHeartbeats 8000000 in
set_option maxRecDepth 100000 in
theorem impl_ConicOther.calls (k : Nat) (A0 : Option Addr) (c0 : Nat) (l0 : List Int) (A1 : Option Addr) (c1 : Nat) (l1 : List Int) (A2 : Option Addr) (c2 : Nat) (l2 : List Int) (r1 : List Int) (r2 : Bool) (w : World) (hr0 : Kd.C (Kd.int .i64) w A0 l0.length l0) (hc0 : l0.length ≤ c0) (hr1 : Kd.C (Kd.int .i64) w A1 l1.length l1) (hc1 : l1.length ≤ c1) (hr2 : Kd.C (Kd.int .i64) w A2 l2.length l2) (hc2 : l2.length ≤ c2) (h : impl_ConicOther.f k l0 l1 l2 = some (r1, r2)) :
    Calls Try.prog 17 #[.slice A0 l0.length c0, .slice A1 l1.length c1, .slice A2 l2.length c2] w fun e w' => ∃ v0_ : Value, e = .returned (.tuple #[v0_, .bool r2]) ∧ Kd.R (Kd.int .i64) 3 w' w.heap.size (fun _ => True) v0_ r1 ∧ Below w.heap.size w w' := by
  have HR0 := Aside0.mk hr0; have HC0 := Aside0.mk hc0; clear hr0 hc0; have HR1 := Aside0.mk hr1; have HC1 := Aside0.mk hc1; clear hr1 hc1; have HR2 := Aside0.mk hr2; have HC2 := Aside0.mk hc2; clear hr2 hc2; have HB := Aside0.mk (Below.refl w.heap.size w); unfold impl_ConicOther.f at h; have H := h; clear h; have HC4 := Aside0.mk H; clear H; go_enter Try.func17, Try.ntmps17
  go_upto_region 1 with (fail)
  go_cut [26] (fun v26 wc => ∃ (kq : Nat) (x26_3 : Bool), v26 = .bool x26_3 ∧ Aside0 (impl_ConicOther.j0 kq l0 l1 l2 x26_3 = some (r1, r2)) ∧ Aside0 (kq ≤ k) ∧ Aside0 (Below w.heap.size w wc))
  case first =>
    have H := HC4.out; clear HC4; obtain ⟨t142, A5, H⟩ := bnd H
    by_cases c6 : t142 = true
    · subst c6
      replace H := ifT H; obtain ⟨t143, A7, H⟩ := bnd H
      by_cases c8 : t143 = true
      · subst c8
        replace H := ifT H; obtain ⟨t144, A9, H⟩ := bnd H; have H' := Aside0.mk H; clear H
        go_wp2_with (first | ((with_reducible refine gate_callee (f := 9) rfl ?_); refine goesK (some 14) Try.func9 #[.slice A0 l0.length c0, .slice A1 l1.length c1] ?_; (with_reducible refine (impl_ConicPoint.calls k _ _ l0 _ _ l1 true _ ?side1 ?side2 ?side3 ?side4 A5.out).mono ?_); (case side1 => exact U (Kd.C_below HR0.out HB.out)); (case side2 => exact HC0.out); (case side3 => exact U (Kd.C_below HR1.out HB.out)); (case side4 => exact HC1.out); rintro e w10 ⟨rfl, hb⟩; refine ⟨_, rfl, ?_⟩; replace HB := BS hb; (try clear hb)) | (go_at_call 30; (with_reducible refine (impl_vectorOk.calls k _ _ l0 _ _ l2 20 true _ ?side1 ?side2 ?side3 ?side4 A7.out).mono ?_); (case side1 => exact U (Kd.C_below HR0.out HB.out)); (case side2 => exact HC0.out); (case side3 => exact U (Kd.C_below HR2.out HB.out)); (case side4 => exact HC2.out); rintro e w' ⟨rfl, ⟨nd, rfl⟩⟩) | (go_at_call 38; (with_reducible refine (impl_collinear.calls _ _ l1 _ _ l2 t144 _ ?side1 ?side2 ?side3 ?side4 A9.out).mono ?_); (case side1 => exact U (Kd.C_below HR1.out BU)); (case side2 => exact HC1.out); (case side3 => exact U (Kd.C_below HR2.out BU)); (case side4 => exact HC2.out); rintro e w' ⟨rfl, ⟨nd, rfl⟩⟩))
        go_meet
        case rel => exact ⟨_, (t144), sR, H', ⟨oR⟩, ⟨BU⟩⟩
      replace c8 := Bool.eq_false_iff.mpr c8; subst c8; replace H := ifF H; have H' := Aside0.mk H; clear H
      go_wp2_with (first | ((with_reducible refine gate_callee (f := 9) rfl ?_); refine goesK (some 14) Try.func9 #[.slice A0 l0.length c0, .slice A1 l1.length c1] ?_; (with_reducible refine (impl_ConicPoint.calls k _ _ l0 _ _ l1 true _ ?side1 ?side2 ?side3 ?side4 A5.out).mono ?_); (case side1 => exact U (Kd.C_below HR0.out HB.out)); (case side2 => exact HC0.out); (case side3 => exact U (Kd.C_below HR1.out HB.out)); (case side4 => exact HC1.out); rintro e w11 ⟨rfl, hb⟩; refine ⟨_, rfl, ?_⟩; replace HB := BS hb; (try clear hb)) | (go_at_call 30; (with_reducible refine (impl_vectorOk.calls k _ _ l0 _ _ l2 20 false _ ?side1 ?side2 ?side3 ?side4 A7.out).mono ?_); (case side1 => exact U (Kd.C_below HR0.out HB.out)); (case side2 => exact HC0.out); (case side3 => exact U (Kd.C_below HR2.out HB.out)); (case side4 => exact HC2.out); rintro e w' ⟨rfl, ⟨nd, rfl⟩⟩))
      go_meet
      case rel => exact ⟨_, (true), sR, H', ⟨oR⟩, ⟨BU⟩⟩
    replace c6 := Bool.eq_false_iff.mpr c6; subst c6; replace H := ifF H; have H' := Aside0.mk H; clear H
    go_wp2_with (first | ((with_reducible refine gate_callee (f := 9) rfl ?_); refine goesK (some 14) Try.func9 #[.slice A0 l0.length c0, .slice A1 l1.length c1] ?_; (with_reducible refine (impl_ConicPoint.calls k _ _ l0 _ _ l1 false _ ?side1 ?side2 ?side3 ?side4 A5.out).mono ?_); (case side1 => exact U (Kd.C_below HR0.out HB.out)); (case side2 => exact HC0.out); (case side3 => exact U (Kd.C_below HR1.out HB.out)); (case side4 => exact HC1.out); rintro e w12 ⟨rfl, hb⟩; refine ⟨_, rfl, ?_⟩; replace HB := BS hb; (try clear hb)))
    go_meet
    case rel => exact ⟨_, (true), sR, H', ⟨oR⟩, ⟨BU⟩⟩
  case rest =>
    clear HC4; obtain ⟨kq, x26_3, rfl, HA, HJ3, HB⟩ := hcut; cases kq with
    | zero => exact absurd HA.out (by simp [impl_ConicOther.j0])
    | succ kj3 =>
      have H := HA.out; clear HA; simp only [impl_ConicOther.j0] at H
      by_cases c13 : x26_3 = true
      · subst c13
        replace H := ifT H; simp only [Option.some.injEq, Prod.mk.injEq] at H; obtain ⟨rfl, rfl⟩ := H
        go_wp2
        go_ret2
        exact ⟨_, eR, by first | exact Kd.R_nil _ _ _ _ _ | exact Kd.N_nil _ _ _ _ _ | exact Kd.V_nil _ _ _ _ _ | exact Kd.Q_nil _ _ _ _ _ | exact Kd.S_nil _ _ _ _ _, BU⟩
      replace c13 := Bool.eq_false_iff.mpr c13; subst c13; replace H := ifF H; obtain ⟨t145, A14, H⟩ := bnd H; obtain ⟨t146, A15, H⟩ := bnd H; obtain ⟨y147, hy147⟩ : ∃ y_ : List Int, y_ = (([] : List Int)) := ⟨_, rfl⟩; replace H : (impl_ConicOther.l0 kj3 l0 l1 l2 t145 t146 y147 (l1.length : Int) 0) = some (r1, r2) := rH hy147 H; have Ny147 := Aside0.mk hy147; clear hy147; have H' := Aside0.mk H; clear H
      go_wp2_with (first | ((with_reducible refine gate_callee (f := 43) rfl ?_); refine goesK (some 30) Try.func43 #[.slice A0 l0.length c0, .slice A2 l2.length c2, .slice A2 l2.length c2] ?_; (with_reducible refine (impl_pair.calls kj3 _ _ l0 _ _ l2 _ _ l2 t145 _ ?side1 ?side2 ?side3 ?side4 ?side5 ?side6 A14.out).mono ?_); (case side1 => exact U (Kd.C_below HR0.out HB.out)); (case side2 => exact HC0.out); (case side3 => exact U (Kd.C_below HR2.out HB.out)); (case side4 => exact HC2.out); (case side5 => exact U (Kd.C_below HR2.out HB.out)); (case side6 => exact HC2.out); rintro e w' ⟨rfl, ⟨nd, rfl⟩⟩; refine ⟨_, rfl, ?_⟩) | ((with_reducible refine gate_callee (f := 43) rfl ?_); refine goesK (some 34) Try.func43 #[.slice A0 l0.length c0, .slice A1 l1.length c1, .slice A2 l2.length c2] ?_; (with_reducible refine (impl_pair.calls kj3 _ _ l0 _ _ l1 _ _ l2 t146 _ ?side1 ?side2 ?side3 ?side4 ?side5 ?side6 A15.out).mono ?_); (case side1 => exact U (Kd.C_below HR0.out BU)); (case side2 => exact HC0.out); (case side3 => exact U (Kd.C_below HR1.out BU)); (case side4 => exact HC1.out); (case side5 => exact U (Kd.C_below HR2.out BU)); (case side6 => exact HC2.out); rintro e w' ⟨rfl, ⟨nd, rfl⟩⟩; refine ⟨_, rfl, ?_⟩) | ((with_reducible refine gate_dst (N := 35) rfl ?_); refine Kd.R_lit (Kd.int .i64) _ 3 ?hg (N := 35) ?hd (xs := ([] : List Int)) (inner := []) (ok := fun _ => True) (okp := fun _ => True) ?hr ?hp (fun _ hk => hk) trivial (Below.refl _ _) (Nat.le_refl _) (by simp) ?_; (case hd => rfl); (case hg => rfl); (case hr => first | (go_simp; done) | (go_simp; rfl)); (case hp => exact (Reps.none _ _)); intro v148 w16 ho17 hb hg_ hnew_; clear hg_ hnew_; (first | rw [← Ny147.out] at ho17 | (simp only [Int.reduceToNat] at ho17; rw [← Ny147.out] at ho17)); have HO149 := Aside0.mk (Kd.R_lower ho17 (below_size BU)); replace HB := BS hb; clear hb ho17))
      go_loopg [10, 38] kj3 (fun kq v10 v38 w' => ∃ (x10_2 : List Int) (x38_2 : Int), v38 = .int .i64 x38_2 ∧ Aside0 (impl_ConicOther.l0 kq l0 l1 l2 t145 t146 x10_2 (l1.length : Int) x38_2 = some (r1, r2)) ∧ Aside0 (kq ≤ kj3) ∧ Aside0 (Kd.R (Kd.int .i64) 3 w' w.heap.size (fun _ => True) v10 x10_2) ∧ Aside0 (Below w.heap.size w w'))
      case atStart => exact ⟨(y147), (0), sR, H', ⟨Nat.le_refl _⟩, ⟨U HO149.out⟩, ⟨BU⟩⟩
      case round =>
        clear H'; (try clear c1); (try clear c2); (try clear c13); obtain ⟨x10_2, x38_2, rfl, HA, HK2, HO_10, HB⟩ := hrel; cases gk with
        | zero => exact absurd HA.out (by simp [impl_ConicOther.l0])
        | succ k2 =>
          have H := HA.out; clear HA; simp only [impl_ConicOther.l0] at H
          by_cases c18 : x38_2 < (l1.length : Int)
          · rw [if_pos c18] at H
            have c18b0 : decide (x38_2 < (l1.length : Int)) = true := decide_eq_true c18; clear c18; obtain ⟨c19, H⟩ := ifN H; have c19b0 : decide (0 ≤ x38_2) = true := decide_eq_true c19; clear c19; obtain ⟨c20, H⟩ := ifN H; have c20b0 : decide (x38_2 < (l1.length : Int)) = true := decide_eq_true c20; clear c20; obtain ⟨c21, H⟩ := ifN H; have c21b0 : decide (x38_2 < (l2.length : Int)) = true := decide_eq_true c21; clear c21; obtain ⟨c22, H⟩ := ifN H; have LMc22 := Aside0.mk c22; clear c22; obtain ⟨y152, hy152⟩ : ∃ y_ : List Int, y_ = (x10_2 ++ [wrap64 ((wrap64 (t145 * (rd l1 x38_2))) - (wrap64 ((wrap64 (2 * t146)) * (rd l2 x38_2))))]) := ⟨_, rfl⟩; replace H : (impl_ConicOther.l0 k2 l0 l1 l2 t145 t146 y152 (l1.length : Int) (wrap64 (x38_2 + 1))) = some (r1, r2) := rH hy152 H; have Ny152 := Aside0.mk hy152; clear hy152; have H' := Aside0.mk H; clear H
            try go_wp2
            replace HO_10 := Aside0.mk (Kd.R_drew HO_10.out); replace HB := Aside0.mk (below_drew1 HB.out); have p150 : 0 ≤ (x38_2 : Int) := oD; have q150 : x38_2 < (l1.length : Int) := oD; obtain ⟨ad150, e150, hx150_0⟩ := Kd.at_int HR1.out x38_2 p150 q150; have hw150_0 := hx150_0; cases e150; replace hx150_0 := (HB.out.cell (World.block_lt_of_cell? w _ hx150_0)).trans hx150_0; replace p150 := eq_true p150; replace q150 := eq_true q150; have p151 : 0 ≤ (x38_2 : Int) := oD; have q151 : x38_2 < (l2.length : Int) := oD; obtain ⟨ad151, e151, hx151_0⟩ := Kd.at_int HR2.out x38_2 p151 q151; have hw151_0 := hx151_0; cases e151; replace hx151_0 := (HB.out.cell (World.block_lt_of_cell? w _ hx151_0)).trans hx151_0; replace p151 := eq_true p151; replace q151 := eq_true q151
            refine start_ (n := 18) (S := fun w' => w'.cell? (ad150.add (x38_2).toNat) = some (.int .i64 (rd l1 x38_2)) ∧ w'.cell? (ad151.add (x38_2).toNat) = some (.int .i64 (rd l2 x38_2))) (ds := []) #[false, false, false, false, false, false, false, false, false, false, false, false, false, false, false, false, false, false] (by kernel_rfl) rfl rfl ⟨((HB.out.cell (World.block_lt_of_cell? w _ hw150_0)).trans hw150_0), ((HB.out.cell (World.block_lt_of_cell? w _ hw151_0)).trans hw151_0)⟩ (fun hHeld => ?_); refine with_tabW impl_ConicOther.tab8 impl_ConicOther.bits8 (fun HT_ HW_ => ?_)
            generalize wr.drew = w23 at HO_10 HB hx150_0 hx151_0 hHeld ⊢
            refine pure_ (i := 0) (N := some 41) (v := ?_) (a' := ?_) #[true, false, false, false, false, false, false, false, false, false, false, false, false, false, false, false, false, false] rfl rfl (any_of HT_.out (by kernel_rfl)) (fun _ _ _ h => h) (Or.inl ⟨by rfl, ?_⟩) ?_ ?_
            rotate_left
            · intro w'
              go_simp
              with_reducible rfl
            rotate_left
            · simp only [Act.put, List.setIfInBounds_toArray, List.set_cons_zero, List.set_cons_succ, i64_w, i32_w]
              rfl
            refine pure_ (i := 1) (N := some 42) (v := ?_) (a' := ?_) #[true, true, false, false, false, false, false, false, false, false, false, false, false, false, false, false, false, false] rfl rfl (any_of HT_.out (by kernel_rfl)) (fun _ _ _ h => h) (Or.inl ⟨by rfl, ?_⟩) ?_ ?_
            rotate_left
            · intro w'
              go_simp
              with_reducible rfl
            rotate_left
            · simp only [Act.put, List.setIfInBounds_toArray, List.set_cons_zero, List.set_cons_succ, i64_w, i32_w]
              rfl
            refine pure_ (i := 2) (N := some 43) (v := ?_) (a' := ?_) #[true, true, true, false, false, false, false, false, false, false, false, false, false, false, false, false, false, false] rfl rfl (any_of HT_.out (by kernel_rfl)) (fun _ _ _ h => h) (Or.inl ⟨by rfl, ?_⟩) ?_ ?_
            rotate_left
            · intro w'
              go_simp
              with_reducible rfl
            rotate_left
            · simp only [Act.put, List.setIfInBounds_toArray, List.set_cons_zero, List.set_cons_succ, i64_w, i32_w]
              rfl
            refine pure_ (i := 3) (N := some 44) (v := ?_) (a' := ?_) #[true, true, true, true, false, false, false, false, false, false, false, false, false, false, false, false, false, false] rfl rfl (any_of HT_.out (by kernel_rfl)) (fun _ _ _ h => h) (Or.inl ⟨by rfl, ?_⟩) ?_ ?_
            rotate_left
            · intro w'
              go_simp
              with_reducible rfl
            rotate_left
            · simp only [Act.put, List.setIfInBounds_toArray, List.set_cons_zero, List.set_cons_succ, i64_w, i32_w]
              rfl
            refine pure_ (i := 4) (N := some 45) (v := ?_) (a' := ?_) #[true, true, true, true, true, false, false, false, false, false, false, false, false, false, false, false, false, false] rfl rfl (any_of HT_.out (by kernel_rfl)) (fun _ _ _ h => h) (Or.inl ⟨by rfl, ?_⟩) ?_ ?_
            rotate_left
            · intro w'
              go_simp
              with_reducible rfl
            rotate_left
            · simp only [Act.put, List.setIfInBounds_toArray, List.set_cons_zero, List.set_cons_succ, i64_w, i32_w]
              rfl
            refine pure_ (i := 7) (N := some 48) (v := ?_) (a' := ?_) #[true, true, true, true, true, false, false, true, false, false, false, false, false, false, false, false, false, false] rfl rfl (any_of HT_.out (by kernel_rfl)) (fun _ _ _ h => h) (Or.inl ⟨by rfl, ?_⟩) ?_ ?_
            rotate_left
            · intro w'
              go_simp
              with_reducible rfl
            rotate_left
            · simp only [Act.put, List.setIfInBounds_toArray, List.set_cons_zero, List.set_cons_succ, i64_w, i32_w]
              rfl
            refine pure_ (i := 8) (N := some 49) (v := ?_) (a' := ?_) #[true, true, true, true, true, false, false, true, true, false, false, false, false, false, false, false, false, false] rfl rfl (any_of HT_.out (by kernel_rfl)) (fun _ _ _ h => h) (Or.inl ⟨by rfl, ?_⟩) ?_ ?_
            rotate_left
            · intro w'
              go_simp
              with_reducible rfl
            rotate_left
            · simp only [Act.put, List.setIfInBounds_toArray, List.set_cons_zero, List.set_cons_succ, i64_w, i32_w]
              rfl
            refine pure_ (i := 9) (N := some 50) (v := ?_) (a' := ?_) #[true, true, true, true, true, false, false, true, true, true, false, false, false, false, false, false, false, false] rfl rfl (any_of HT_.out (by kernel_rfl)) (fun _ _ _ h => h) (Or.inl ⟨by rfl, ?_⟩) ?_ ?_
            rotate_left
            · intro w'
              go_simp
              with_reducible rfl
            rotate_left
            · simp only [Act.put, List.setIfInBounds_toArray, List.set_cons_zero, List.set_cons_succ, i64_w, i32_w]
              rfl
            refine pure_ (i := 10) (N := some 51) (v := ?_) (a' := ?_) #[true, true, true, true, true, false, false, true, true, true, true, false, false, false, false, false, false, false] rfl rfl (any_of HT_.out (by kernel_rfl)) (fun _ _ _ h => h) (Or.inl ⟨by rfl, ?_⟩) ?_ ?_
            rotate_left
            · intro w'
              go_simp
              with_reducible rfl
            rotate_left
            · simp only [Act.put, List.setIfInBounds_toArray, List.set_cons_zero, List.set_cons_succ, i64_w, i32_w]
              rfl
            refine pure_ (i := 11) (N := some 52) (v := ?_) (a' := ?_) #[true, true, true, true, true, false, false, true, true, true, true, true, false, false, false, false, false, false] rfl rfl (any_of HT_.out (by kernel_rfl)) (fun _ _ _ h => h) (Or.inl ⟨by rfl, ?_⟩) ?_ ?_
            rotate_left
            · intro w'
              go_simp
              with_reducible rfl
            rotate_left
            · simp only [Act.put, List.setIfInBounds_toArray, List.set_cons_zero, List.set_cons_succ, i64_w, i32_w]
              rfl
            refine take_ (i := 5) (N := some 46) (v := ?_) (a' := ?_) #[true, true, true, true, true, true, false, true, true, true, true, true, false, false, false, false, false, false] rfl rfl (take_ofW HT_.out HW_.out (by kernel_rfl)) (fun _ _ _ h => h) (Or.inl ⟨by rfl, ?_⟩) hHeld ?_ ?_
            rotate_left
            · rintro w' ⟨s0, s1⟩
              go_simp
              with_reducible rfl
            rotate_left
            · simp only [Act.put, List.setIfInBounds_toArray, List.set_cons_zero, List.set_cons_succ, i64_w, i32_w]
              rfl
            refine pure_ (i := 6) (N := some 47) (v := ?_) (a' := ?_) #[true, true, true, true, true, true, true, true, true, true, true, true, false, false, false, false, false, false] rfl rfl (any_of HT_.out (by kernel_rfl)) (fun _ _ _ h => h) (Or.inl ⟨by rfl, ?_⟩) ?_ ?_
            rotate_left
            · intro w'
              go_simp
              with_reducible rfl
            rotate_left
            · simp only [Act.put, List.setIfInBounds_toArray, List.set_cons_zero, List.set_cons_succ, i64_w, i32_w]
              rfl
            refine take_ (i := 12) (N := some 53) (v := ?_) (a' := ?_) #[true, true, true, true, true, true, true, true, true, true, true, true, true, false, false, false, false, false] rfl rfl (take_ofW HT_.out HW_.out (by kernel_rfl)) (fun _ _ _ h => h) (Or.inl ⟨by rfl, ?_⟩) hHeld ?_ ?_
            rotate_left
            · rintro w' ⟨s0, s1⟩
              go_simp
              with_reducible rfl
            rotate_left
            · simp only [Act.put, List.setIfInBounds_toArray, List.set_cons_zero, List.set_cons_succ, i64_w, i32_w]
              rfl
            refine pure_ (i := 13) (N := some 54) (v := ?_) (a' := ?_) #[true, true, true, true, true, true, true, true, true, true, true, true, true, true, false, false, false, false] rfl rfl (any_of HT_.out (by kernel_rfl)) (fun _ _ _ h => h) (Or.inl ⟨by rfl, ?_⟩) ?_ ?_
            rotate_left
            · intro w'
              go_simp
              with_reducible rfl
            rotate_left
            · simp only [Act.put, List.setIfInBounds_toArray, List.set_cons_zero, List.set_cons_succ, i64_w, i32_w]
              rfl
            refine pure_ (i := 14) (N := some 55) (v := ?_) (a' := ?_) #[true, true, true, true, true, true, true, true, true, true, true, true, true, true, true, false, false, false] rfl rfl (any_of HT_.out (by kernel_rfl)) (fun _ _ _ h => h) (Or.inl ⟨by rfl, ?_⟩) ?_ ?_
            rotate_left
            · intro w'
              go_simp
              with_reducible rfl
            rotate_left
            · simp only [Act.put, List.setIfInBounds_toArray, List.set_cons_zero, List.set_cons_succ, i64_w, i32_w]
              rfl
            refine one_ (i := 15) (N := some 56) #[true, true, true, true, true, true, true, true, true, true, true, true, true, true, true, true, false, false] rfl rfl (one_of HT_.out (by kernel_rfl)) (by decide) (fun K hK => ?_)
            refine value_ (w1 := ?_) (v := ?_) (by rfl) rfl ?_ ?_
            rotate_left 2
            · go_simp
              constructor
              · rfl
              rfl
            refine hK.out _ _ ⟨(World.cell?_alloc_lt _ _ _ (World.block_lt_of_cell? _ _ (((HB.out.cell (World.block_lt_of_cell? w _ hw150_0)).trans hw150_0)))).trans (((HB.out.cell (World.block_lt_of_cell? w _ hw150_0)).trans hw150_0)), (World.cell?_alloc_lt _ _ _ (World.block_lt_of_cell? _ _ (((HB.out.cell (World.block_lt_of_cell? w _ hw151_0)).trans hw151_0)))).trans (((HB.out.cell (World.block_lt_of_cell? w _ hw151_0)).trans hw151_0))⟩ (fun hHeld => ?_)
            clear hK K
            refine norm_ (a' := ?_) ?_ ?_
            rotate_left
            · show Act.put _ (some 56) _ = _
              simp only [Act.put, List.setIfInBounds_toArray, List.set_cons_zero, List.set_cons_succ, i64_w, i32_w]
              rfl
            refine one_ (i := 16) (N := some 57) #[true, true, true, true, true, true, true, true, true, true, true, true, true, true, true, true, true, false] rfl rfl (one_of HT_.out (by kernel_rfl)) (by decide) (fun K hK => ?_)
            refine Kd.R_append_step (Kd.int .i64) (w0 := w) w.heap.size (by rfl) (.tmp 41) (.tmp 56) 23 3 (.int .i64 0) 8 rfl Try.underlying23 info3 rfl (by decide) (by omega) u10 x10_2 (wrap64 ((wrap64 (t145 * (rd l1 x38_2))) - (wrap64 ((wrap64 (2 * t146)) * (rd l2 x38_2))))) [.int .i64 (wrap64 ((wrap64 (t145 * (rd l1 x38_2))) - (wrap64 ((wrap64 (2 * t146)) * (rd l2 x38_2)))))] (fun _ => True) (fun _ => False) rfl rfl ?aP (fun _ hk => hk.elim) ?aF ?aO ?aB ?aS ?aL ?_
            (case aP => exact rfl)
            (case aB => exact BU)
            (case aF => exact (fun _ _ => trivial))
            (case aO => exact (U HO_10.out))
            (case aS => exact (below_size BU))
            (case aL => have := LMc22.out; omega)
            intro v153 w24 ho hb hg hat; rw [← Ny152.out] at ho; have n0_ := Aside0.mk (hb); have n1_ := Aside0.mk (ho); (try clear HB); clear HO_10; have HB := n0_; have HO154 := n1_; clear n0_ n1_ ho hb hg hat
            refine hK.out _ _ ⟨((HB.out.cell (World.block_lt_of_cell? w _ hw150_0)).trans hw150_0), ((HB.out.cell (World.block_lt_of_cell? w _ hw151_0)).trans hw151_0)⟩ (fun hHeld => ?_)
            clear hK K
            refine norm_ (a' := ?_) ?_ ?_
            rotate_left
            · show Act.put _ (some 57) _ = _
              simp only [Act.put, List.setIfInBounds_toArray, List.set_cons_zero, List.set_cons_succ, i64_w, i32_w]
              rfl
            refine pure_ (i := 17) (N := some 10) (v := ?_) (a' := ?_) #[true, true, true, true, true, true, true, true, true, true, true, true, true, true, true, true, true, true] rfl rfl (any_of HT_.out (by kernel_rfl)) (fun _ _ _ h => h) (Or.inl ⟨by rfl, ?_⟩) ?_ ?_
            rotate_left
            · intro w'
              go_simp
              with_reducible rfl
            rotate_left
            · simp only [Act.put, List.setIfInBounds_toArray, List.set_cons_zero, List.set_cons_succ, i64_w, i32_w]
              rfl
            refine done_ (done_of HT_.out (by kernel_rfl)) ?_
            try go_wp2
            go_roundg k2
            case measure => have := HJ3.out; have := HK2.out; omega
            case rel => exact ⟨(y152), (wrap64 (x38_2 + 1)), sR, H', ⟨by have := HJ3.out; have := HK2.out; omega⟩, ⟨U HO154.out⟩, ⟨BU⟩⟩
          rw [if_neg c18] at H; have c18b0 : decide (x38_2 < (l1.length : Int)) = false := decide_eq_false c18; clear c18; obtain ⟨t155, A25, H⟩ := bnd H; obtain ⟨t158, A26, H⟩ := bnd H
          by_cases c27 : t158 = true
          · subst c27
            replace H := ifT H; simp only [Option.some.injEq, Prod.mk.injEq] at H; obtain ⟨rfl, rfl⟩ := H; obtain ⟨Ao28, co28, eo28⟩ := Kd.R_slice HO_10.out; subst eo28
            go_wp2_with (first | ((with_reducible refine gate_callee (f := 33) rfl ?_); refine goesK (some 60) Try.func33 #[.slice Ao28 x10_2.length co28] ?_; (with_reducible refine (impl_plain.calls k2 _ _ x10_2 t155 _ ?side1 ?side2 A25.out).mono ?_); (case side1 => exact U ((Kd.R_reads' HO_10.out).2.2)); (case side2 => exact (Kd.R_reads' HO_10.out).2.1); rintro e w29 ⟨v156, rfl, ho0, hb⟩; refine ⟨_, rfl, ?_⟩; have HO157 := Aside0.mk (Kd.R_lower (Kd.R_new' ho0 (Kd.R_lt (U HO_10.out))) (below_size BU)); replace HO_10 := Aside0.mk (Kd.R_elder' (U HO_10.out) (Kd.R_base ho0) hb); replace HB := BS hb; (try clear hb); (try clear ho0); obtain ⟨Ao30, co30, eo30⟩ := Kd.R_slice HO157.out; subst eo30) | ((with_reducible refine gate_callee (f := 30) rfl ?_); refine goesK (some 63) Try.func30 #[.slice A0 l0.length c0, .slice Ao30 t155.length co30, .int .i64 1000000] ?_; (with_reducible refine (impl_vectorOk.calls k2 _ _ l0 _ _ t155 1000000 true _ ?side1 ?side2 ?side3 ?side4 A26.out).mono ?_); (case side1 => exact U (Kd.C_below HR0.out HB.out)); (case side2 => exact HC0.out); (case side3 => exact U ((Kd.R_reads' HO157.out).2.2)); (case side4 => exact (Kd.R_reads' HO157.out).2.1); rintro e w' ⟨rfl, ⟨nd, rfl⟩⟩; refine ⟨_, rfl, ?_⟩))
            go_ret2
            exact ⟨_, eR, Kd.RM HO157.out (fun _ hk => trivial), BU⟩
          replace c27 := Bool.eq_false_iff.mpr c27; subst c27; replace H := ifF H; simp only [Option.some.injEq, Prod.mk.injEq] at H; obtain ⟨rfl, rfl⟩ := H; obtain ⟨Ao31, co31, eo31⟩ := Kd.R_slice HO_10.out; subst eo31
          go_wp2_with (first | ((with_reducible refine gate_callee (f := 33) rfl ?_); refine goesK (some 60) Try.func33 #[.slice Ao31 x10_2.length co31] ?_; (with_reducible refine (impl_plain.calls k2 _ _ x10_2 t155 _ ?side1 ?side2 A25.out).mono ?_); (case side1 => exact U ((Kd.R_reads' HO_10.out).2.2)); (case side2 => exact (Kd.R_reads' HO_10.out).2.1); rintro e w32 ⟨v156, rfl, ho0, hb⟩; refine ⟨_, rfl, ?_⟩; have HO157 := Aside0.mk (Kd.R_lower (Kd.R_new' ho0 (Kd.R_lt (U HO_10.out))) (below_size BU)); replace HO_10 := Aside0.mk (Kd.R_elder' (U HO_10.out) (Kd.R_base ho0) hb); replace HB := BS hb; (try clear hb); (try clear ho0); obtain ⟨Ao33, co33, eo33⟩ := Kd.R_slice HO157.out; subst eo33) | ((with_reducible refine gate_callee (f := 30) rfl ?_); refine goesK (some 63) Try.func30 #[.slice A0 l0.length c0, .slice Ao33 t155.length co33, .int .i64 1000000] ?_; (with_reducible refine (impl_vectorOk.calls k2 _ _ l0 _ _ t155 1000000 false _ ?side1 ?side2 ?side3 ?side4 A26.out).mono ?_); (case side1 => exact U (Kd.C_below HR0.out HB.out)); (case side2 => exact HC0.out); (case side3 => exact U ((Kd.R_reads' HO157.out).2.2)); (case side4 => exact (Kd.R_reads' HO157.out).2.1); rintro e w' ⟨rfl, ⟨nd, rfl⟩⟩; refine ⟨_, rfl, ?_⟩))
          go_ret2
          exact ⟨_, eR, by first | exact Kd.R_nil _ _ _ _ _ | exact Kd.N_nil _ _ _ _ _ | exact Kd.V_nil _ _ _ _ _ | exact Kd.Q_nil _ _ _ _ _ | exact Kd.S_nil _ _ _ _ _, BU⟩

end Go.Proofs.Ytpaohkhmhdhibaa.PFnConicMany
