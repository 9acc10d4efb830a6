-- Written by a program of this session (wip/print2.py): the functions that the law reaches, plain, and the walks.
import Derived.Test.YtpaohkhmhdhibaaPFnConicBackx0
namespace Go.Proofs.Ytpaohkhmhdhibaa.PFnConicBack
open Go.RowKit Go.Proofs.YtpaohkhmhdhibaaW.PrintWords Go.Proofs.YtpaohkhmhdhibaaW.PrintLast Go.Proofs.YtpaohkhmhdhibaaW.PrintMore
attribute [local go_sem] max2_int min2_int max_two min_two max_three min_three max_four min_four   -- for this text's walks alone
set_option linter.unusedVariables false
set_option linter.unusedSimpArgs false

/-! ### impl_collinear: function 38 -/
def impl_collinear.f (l0 : List Int) (l1 : List Int) : Option (Bool) := if 0 < (l0.length : Int) then (if 1 < (l1.length : Int) then (if 1 < (l0.length : Int) then (if 0 < (l1.length : Int) then (if (wrap64 ((rd l0 0) * (rd l1 1))) = (wrap64 ((rd l0 1) * (rd l1 0))) then (if 2 < (l1.length : Int) then (if 2 < (l0.length : Int) then (if (wrap64 ((rd l0 0) * (rd l1 2))) = (wrap64 ((rd l0 2) * (rd l1 0))) then (some ((wrap64 ((rd l0 1) * (rd l1 2))) == (wrap64 ((rd l0 2) * (rd l1 1))))) else (some false)) else (none)) else (none)) else (some false)) else (none)) else (none)) else (none)) else (none)
set_option maxHeartbeats 8000000 in
set_option maxRecDepth 100000 in
theorem impl_collinear.calls (A0 : Option Addr) (c0 : Nat) (l0 : List Int) (A1 : Option Addr) (c1 : Nat) (l1 : List Int) (r : Bool) (w : World) (hr0 : Kd.C (Kd.int .i64) w A0 l0.length l0) (hc0 : l0.length ≤ c0) (hr1 : Kd.C (Kd.int .i64) w A1 l1.length l1) (hc1 : l1.length ≤ c1) (h : impl_collinear.f l0 l1 = some r) :
    Calls Try.prog 38 #[.slice A0 l0.length c0, .slice A1 l1.length c1] w fun e w' => e = .returned (.bool r) ∧ Drawn0 w w' := by
  have HR0 := Aside0.mk hr0; have HC0 := Aside0.mk hc0; clear hr0 hc0; have HR1 := Aside0.mk hr1; have HC1 := Aside0.mk hc1; clear hr1 hc1; unfold impl_collinear.f at h; have H := h; clear h; obtain ⟨c3, H⟩ := ifN H; have c3b0 : decide (0 < (l0.length : Int)) = true := decide_eq_true c3; have c3b1 : decide (0 < l0.length) = true := decide_eq_true (by omega); clear c3; obtain ⟨c4, H⟩ := ifN H; have c4b0 : decide (1 < (l1.length : Int)) = true := decide_eq_true c4; have c4b1 : decide (1 < l1.length) = true := decide_eq_true (by omega); clear c4; obtain ⟨c5, H⟩ := ifN H; have c5b0 : decide (1 < (l0.length : Int)) = true := decide_eq_true c5; have c5b1 : decide (1 < l0.length) = true := decide_eq_true (by omega); clear c5; obtain ⟨c6, H⟩ := ifN H; have c6b0 : decide (0 < (l1.length : Int)) = true := decide_eq_true c6; have c6b1 : decide (0 < l1.length) = true := decide_eq_true (by omega); clear c6
  by_cases c7 : (wrap64 ((rd l0 0) * (rd l1 1))) = (wrap64 ((rd l0 1) * (rd l1 0)))
  · rw [if_pos c7] at H
    have c7b0 : ((wrap64 ((rd l0 0) * (rd l1 1))) == (wrap64 ((rd l0 1) * (rd l1 0)))) = true := beq_iff_eq.mpr c7; have c7b1 : ((wrap64 ((rd l0 0) * (rd l1 1))) != (wrap64 ((rd l0 1) * (rd l1 0)))) = false := bne_eq_false_iff_eq.mpr c7; clear c7; obtain ⟨c8, H⟩ := ifN H; have c8b0 : decide (2 < (l1.length : Int)) = true := decide_eq_true c8; have c8b1 : decide (2 < l1.length) = true := decide_eq_true (by omega); clear c8; obtain ⟨c9, H⟩ := ifN H; have c9b0 : decide (2 < (l0.length : Int)) = true := decide_eq_true c9; have c9b1 : decide (2 < l0.length) = true := decide_eq_true (by omega); clear c9
    by_cases c10 : (wrap64 ((rd l0 0) * (rd l1 2))) = (wrap64 ((rd l0 2) * (rd l1 0)))
    · rw [if_pos c10] at H
      have c10b0 : ((wrap64 ((rd l0 0) * (rd l1 2))) == (wrap64 ((rd l0 2) * (rd l1 0)))) = true := beq_iff_eq.mpr c10; have c10b1 : ((wrap64 ((rd l0 0) * (rd l1 2))) != (wrap64 ((rd l0 2) * (rd l1 0)))) = false := bne_eq_false_iff_eq.mpr c10; clear c10; obtain rfl := Option.some.inj H; have p131 : 0 ≤ (0 : Int) := (by omega); have q131 : 0 < (l0.length : Int) := oD; obtain ⟨ad131, e131, hx131_0⟩ := Kd.at_int HR0.out 0 p131 q131; cases e131; have qi131 : (0 < l0.length) = True := eq_true (by omega)
      (try rw [show ((0 : Int)).toNat = 0 from rfl] at hx131_0)
      (try rw [Addr.add_zero'] at hx131_0)
      replace p131 := eq_true p131; replace q131 := eq_true q131; have p132 : 0 ≤ (1 : Int) := (by omega); have q132 : 1 < (l1.length : Int) := oD; obtain ⟨ad132, e132, hx132_0⟩ := Kd.at_int HR1.out 1 p132 q132; cases e132
      (try simp only [show (1 : Int).toNat = 1 from rfl, Nat.reduceMul, Nat.reduceEqDiff, Go.Addr.add, ↓reduceIte] at hx132_0)
      have qi132 : (1 < l1.length) = True := eq_true (by omega)
      (try rw [show ((1 : Int)).toNat = 1 from rfl] at hx132_0)
      replace p132 := eq_true p132; replace q132 := eq_true q132; have p133 : 0 ≤ (1 : Int) := (by omega); have q133 : 1 < (l0.length : Int) := oD; obtain ⟨ad133, e133, hx133_0⟩ := Kd.at_int HR0.out 1 p133 q133; obtain rfl : ad131 = ad133 := (by injection e133)
      (try simp only [show (1 : Int).toNat = 1 from rfl, Nat.reduceMul, Nat.reduceEqDiff, Go.Addr.add, ↓reduceIte] at hx133_0)
      have qi133 : (1 < l0.length) = True := eq_true (by omega)
      (try rw [show ((1 : Int)).toNat = 1 from rfl] at hx133_0)
      replace p133 := eq_true p133; replace q133 := eq_true q133; have p134 : 0 ≤ (0 : Int) := (by omega); have q134 : 0 < (l1.length : Int) := oD; obtain ⟨ad134, e134, hx134_0⟩ := Kd.at_int HR1.out 0 p134 q134; obtain rfl : ad132 = ad134 := (by injection e134); have qi134 : (0 < l1.length) = True := eq_true (by omega)
      (try rw [show ((0 : Int)).toNat = 0 from rfl] at hx134_0)
      (try rw [Addr.add_zero'] at hx134_0)
      replace p134 := eq_true p134; replace q134 := eq_true q134; have p135 : 0 ≤ (0 : Int) := (by omega); have q135 : 0 < (l0.length : Int) := oD; obtain ⟨ad135, e135, hx135_0⟩ := Kd.at_int HR0.out 0 p135 q135; obtain rfl : ad131 = ad135 := (by injection e135); have qi135 : (0 < l0.length) = True := eq_true (by omega)
      (try rw [show ((0 : Int)).toNat = 0 from rfl] at hx135_0)
      (try rw [Addr.add_zero'] at hx135_0)
      replace p135 := eq_true p135; replace q135 := eq_true q135; have p136 : 0 ≤ (2 : Int) := (by omega); have q136 : 2 < (l1.length : Int) := oD; obtain ⟨ad136, e136, hx136_0⟩ := Kd.at_int HR1.out 2 p136 q136; obtain rfl : ad132 = ad136 := (by injection e136)
      (try simp only [show (2 : Int).toNat = 2 from rfl, Nat.reduceMul, Nat.reduceEqDiff, Go.Addr.add, ↓reduceIte] at hx136_0)
      have qi136 : (2 < l1.length) = True := eq_true (by omega)
      (try rw [show ((2 : Int)).toNat = 2 from rfl] at hx136_0)
      replace p136 := eq_true p136; replace q136 := eq_true q136; have p137 : 0 ≤ (2 : Int) := (by omega); have q137 : 2 < (l0.length : Int) := oD; obtain ⟨ad137, e137, hx137_0⟩ := Kd.at_int HR0.out 2 p137 q137; obtain rfl : ad131 = ad137 := (by injection e137)
      (try simp only [show (2 : Int).toNat = 2 from rfl, Nat.reduceMul, Nat.reduceEqDiff, Go.Addr.add, ↓reduceIte] at hx137_0)
      have qi137 : (2 < l0.length) = True := eq_true (by omega)
      (try rw [show ((2 : Int)).toNat = 2 from rfl] at hx137_0)
      replace p137 := eq_true p137; replace q137 := eq_true q137; have p138 : 0 ≤ (0 : Int) := (by omega); have q138 : 0 < (l1.length : Int) := oD; obtain ⟨ad138, e138, hx138_0⟩ := Kd.at_int HR1.out 0 p138 q138; obtain rfl : ad132 = ad138 := (by injection e138); have qi138 : (0 < l1.length) = True := eq_true (by omega)
      (try rw [show ((0 : Int)).toNat = 0 from rfl] at hx138_0)
      (try rw [Addr.add_zero'] at hx138_0)
      replace p138 := eq_true p138; replace q138 := eq_true q138; have p139 : 0 ≤ (1 : Int) := (by omega); have q139 : 1 < (l0.length : Int) := oD; obtain ⟨ad139, e139, hx139_0⟩ := Kd.at_int HR0.out 1 p139 q139; obtain rfl : ad131 = ad139 := (by injection e139)
      (try simp only [show (1 : Int).toNat = 1 from rfl, Nat.reduceMul, Nat.reduceEqDiff, Go.Addr.add, ↓reduceIte] at hx139_0)
      have qi139 : (1 < l0.length) = True := eq_true (by omega)
      (try rw [show ((1 : Int)).toNat = 1 from rfl] at hx139_0)
      replace p139 := eq_true p139; replace q139 := eq_true q139; have p140 : 0 ≤ (2 : Int) := (by omega); have q140 : 2 < (l1.length : Int) := oD; obtain ⟨ad140, e140, hx140_0⟩ := Kd.at_int HR1.out 2 p140 q140; obtain rfl : ad132 = ad140 := (by injection e140)
      (try simp only [show (2 : Int).toNat = 2 from rfl, Nat.reduceMul, Nat.reduceEqDiff, Go.Addr.add, ↓reduceIte] at hx140_0)
      have qi140 : (2 < l1.length) = True := eq_true (by omega)
      (try rw [show ((2 : Int)).toNat = 2 from rfl] at hx140_0)
      replace p140 := eq_true p140; replace q140 := eq_true q140; have p141 : 0 ≤ (2 : Int) := (by omega); have q141 : 2 < (l0.length : Int) := oD; obtain ⟨ad141, e141, hx141_0⟩ := Kd.at_int HR0.out 2 p141 q141; obtain rfl : ad131 = ad141 := (by injection e141)
      (try simp only [show (2 : Int).toNat = 2 from rfl, Nat.reduceMul, Nat.reduceEqDiff, Go.Addr.add, ↓reduceIte] at hx141_0)
      have qi141 : (2 < l0.length) = True := eq_true (by omega)
      (try rw [show ((2 : Int)).toNat = 2 from rfl] at hx141_0)
      replace p141 := eq_true p141; replace q141 := eq_true q141; have p142 : 0 ≤ (1 : Int) := (by omega); have q142 : 1 < (l1.length : Int) := oD; obtain ⟨ad142, e142, hx142_0⟩ := Kd.at_int HR1.out 1 p142 q142; obtain rfl : ad132 = ad142 := (by injection e142)
      (try simp only [show (1 : Int).toNat = 1 from rfl, Nat.reduceMul, Nat.reduceEqDiff, Go.Addr.add, ↓reduceIte] at hx142_0)
      have qi142 : (1 < l1.length) = True := eq_true (by omega)
      (try rw [show ((1 : Int)).toNat = 1 from rfl] at hx142_0)
      replace p142 := eq_true p142; replace q142 := eq_true q142; go_enter Try.func38, Try.ntmps38
      go_wp2
      repeat (go_quiet (fail); try go_wp2)
      go_ret
      exact ⟨by first | rfl | (simp; done) | (simp [*]; done), by repeat (first | exact Drawn0.refl _ | apply Drawn0.step)⟩
    rw [if_neg c10] at H; have c10b0 : ((wrap64 ((rd l0 0) * (rd l1 2))) == (wrap64 ((rd l0 2) * (rd l1 0)))) = false := beq_eq_false_iff_ne.mpr c10; have c10b1 : ((wrap64 ((rd l0 0) * (rd l1 2))) != (wrap64 ((rd l0 2) * (rd l1 0)))) = true := bne_iff_ne.mpr c10; obtain rfl := Option.some.inj H; have p131 : 0 ≤ (0 : Int) := (by omega); have q131 : 0 < (l0.length : Int) := oD; obtain ⟨ad131, e131, hx131_0⟩ := Kd.at_int HR0.out 0 p131 q131; cases e131; have qi131 : (0 < l0.length) = True := eq_true (by omega)
    (try rw [show ((0 : Int)).toNat = 0 from rfl] at hx131_0)
    (try rw [Addr.add_zero'] at hx131_0)
    replace p131 := eq_true p131; replace q131 := eq_true q131; have p132 : 0 ≤ (1 : Int) := (by omega); have q132 : 1 < (l1.length : Int) := oD; obtain ⟨ad132, e132, hx132_0⟩ := Kd.at_int HR1.out 1 p132 q132; cases e132
    (try simp only [show (1 : Int).toNat = 1 from rfl, Nat.reduceMul, Nat.reduceEqDiff, Go.Addr.add, ↓reduceIte] at hx132_0)
    have qi132 : (1 < l1.length) = True := eq_true (by omega)
    (try rw [show ((1 : Int)).toNat = 1 from rfl] at hx132_0)
    replace p132 := eq_true p132; replace q132 := eq_true q132; have p133 : 0 ≤ (1 : Int) := (by omega); have q133 : 1 < (l0.length : Int) := oD; obtain ⟨ad133, e133, hx133_0⟩ := Kd.at_int HR0.out 1 p133 q133; obtain rfl : ad131 = ad133 := (by injection e133)
    (try simp only [show (1 : Int).toNat = 1 from rfl, Nat.reduceMul, Nat.reduceEqDiff, Go.Addr.add, ↓reduceIte] at hx133_0)
    have qi133 : (1 < l0.length) = True := eq_true (by omega)
    (try rw [show ((1 : Int)).toNat = 1 from rfl] at hx133_0)
    replace p133 := eq_true p133; replace q133 := eq_true q133; have p134 : 0 ≤ (0 : Int) := (by omega); have q134 : 0 < (l1.length : Int) := oD; obtain ⟨ad134, e134, hx134_0⟩ := Kd.at_int HR1.out 0 p134 q134; obtain rfl : ad132 = ad134 := (by injection e134); have qi134 : (0 < l1.length) = True := eq_true (by omega)
    (try rw [show ((0 : Int)).toNat = 0 from rfl] at hx134_0)
    (try rw [Addr.add_zero'] at hx134_0)
    replace p134 := eq_true p134; replace q134 := eq_true q134; have p135 : 0 ≤ (0 : Int) := (by omega); have q135 : 0 < (l0.length : Int) := oD; obtain ⟨ad135, e135, hx135_0⟩ := Kd.at_int HR0.out 0 p135 q135; obtain rfl : ad131 = ad135 := (by injection e135); have qi135 : (0 < l0.length) = True := eq_true (by omega)
    (try rw [show ((0 : Int)).toNat = 0 from rfl] at hx135_0)
    (try rw [Addr.add_zero'] at hx135_0)
    replace p135 := eq_true p135; replace q135 := eq_true q135; have p136 : 0 ≤ (2 : Int) := (by omega); have q136 : 2 < (l1.length : Int) := oD; obtain ⟨ad136, e136, hx136_0⟩ := Kd.at_int HR1.out 2 p136 q136; obtain rfl : ad132 = ad136 := (by injection e136)
    (try simp only [show (2 : Int).toNat = 2 from rfl, Nat.reduceMul, Nat.reduceEqDiff, Go.Addr.add, ↓reduceIte] at hx136_0)
    have qi136 : (2 < l1.length) = True := eq_true (by omega)
    (try rw [show ((2 : Int)).toNat = 2 from rfl] at hx136_0)
    replace p136 := eq_true p136; replace q136 := eq_true q136; have p137 : 0 ≤ (2 : Int) := (by omega); have q137 : 2 < (l0.length : Int) := oD; obtain ⟨ad137, e137, hx137_0⟩ := Kd.at_int HR0.out 2 p137 q137; obtain rfl : ad131 = ad137 := (by injection e137)
    (try simp only [show (2 : Int).toNat = 2 from rfl, Nat.reduceMul, Nat.reduceEqDiff, Go.Addr.add, ↓reduceIte] at hx137_0)
    have qi137 : (2 < l0.length) = True := eq_true (by omega)
    (try rw [show ((2 : Int)).toNat = 2 from rfl] at hx137_0)
    replace p137 := eq_true p137; replace q137 := eq_true q137; have p138 : 0 ≤ (0 : Int) := (by omega); have q138 : 0 < (l1.length : Int) := oD; obtain ⟨ad138, e138, hx138_0⟩ := Kd.at_int HR1.out 0 p138 q138; obtain rfl : ad132 = ad138 := (by injection e138); have qi138 : (0 < l1.length) = True := eq_true (by omega)
    (try rw [show ((0 : Int)).toNat = 0 from rfl] at hx138_0)
    (try rw [Addr.add_zero'] at hx138_0)
    replace p138 := eq_true p138; replace q138 := eq_true q138; go_enter Try.func38, Try.ntmps38
    go_wp2
    repeat (go_quiet (fail); try go_wp2)
    go_ret
    exact ⟨by first | rfl | (simp; done) | (simp [*]; done), by repeat (first | exact Drawn0.refl _ | apply Drawn0.step)⟩
  rw [if_neg c7] at H; have c7b0 : ((wrap64 ((rd l0 0) * (rd l1 1))) == (wrap64 ((rd l0 1) * (rd l1 0)))) = false := beq_eq_false_iff_ne.mpr c7; have c7b1 : ((wrap64 ((rd l0 0) * (rd l1 1))) != (wrap64 ((rd l0 1) * (rd l1 0)))) = true := bne_iff_ne.mpr c7; obtain rfl := Option.some.inj H; have p131 : 0 ≤ (0 : Int) := (by omega); have q131 : 0 < (l0.length : Int) := oD; obtain ⟨ad131, e131, hx131_0⟩ := Kd.at_int HR0.out 0 p131 q131; cases e131; have qi131 : (0 < l0.length) = True := eq_true (by omega)
  (try rw [show ((0 : Int)).toNat = 0 from rfl] at hx131_0)
  (try rw [Addr.add_zero'] at hx131_0)
  replace p131 := eq_true p131; replace q131 := eq_true q131; have p132 : 0 ≤ (1 : Int) := (by omega); have q132 : 1 < (l1.length : Int) := oD; obtain ⟨ad132, e132, hx132_0⟩ := Kd.at_int HR1.out 1 p132 q132; cases e132
  (try simp only [show (1 : Int).toNat = 1 from rfl, Nat.reduceMul, Nat.reduceEqDiff, Go.Addr.add, ↓reduceIte] at hx132_0)
  have qi132 : (1 < l1.length) = True := eq_true (by omega)
  (try rw [show ((1 : Int)).toNat = 1 from rfl] at hx132_0)
  replace p132 := eq_true p132; replace q132 := eq_true q132; have p133 : 0 ≤ (1 : Int) := (by omega); have q133 : 1 < (l0.length : Int) := oD; obtain ⟨ad133, e133, hx133_0⟩ := Kd.at_int HR0.out 1 p133 q133; obtain rfl : ad131 = ad133 := (by injection e133)
  (try simp only [show (1 : Int).toNat = 1 from rfl, Nat.reduceMul, Nat.reduceEqDiff, Go.Addr.add, ↓reduceIte] at hx133_0)
  have qi133 : (1 < l0.length) = True := eq_true (by omega)
  (try rw [show ((1 : Int)).toNat = 1 from rfl] at hx133_0)
  replace p133 := eq_true p133; replace q133 := eq_true q133; have p134 : 0 ≤ (0 : Int) := (by omega); have q134 : 0 < (l1.length : Int) := oD; obtain ⟨ad134, e134, hx134_0⟩ := Kd.at_int HR1.out 0 p134 q134; obtain rfl : ad132 = ad134 := (by injection e134); have qi134 : (0 < l1.length) = True := eq_true (by omega)
  (try rw [show ((0 : Int)).toNat = 0 from rfl] at hx134_0)
  (try rw [Addr.add_zero'] at hx134_0)
  replace p134 := eq_true p134; replace q134 := eq_true q134; go_enter Try.func38, Try.ntmps38
  go_wp2
  repeat (go_quiet (fail); try go_wp2)
  go_ret
  exact ⟨by first | rfl | (simp; done) | (simp [*]; done), by repeat (first | exact Drawn0.refl _ | apply Drawn0.step)⟩

end Go.Proofs.Ytpaohkhmhdhibaa.PFnConicBack
