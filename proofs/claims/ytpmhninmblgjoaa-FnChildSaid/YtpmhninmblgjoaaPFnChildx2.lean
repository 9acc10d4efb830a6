-- Written by a program of this session (wip/print2.py): the functions that the law reaches, plain, and the walks.
import Derived.Test.YtpmhninmblgjoaaPFnChildx0
import Derived.Test.YtpmhninmblgjoaaPFnChildx1
namespace Go.Proofs.Ytpmhninmblgjoaa.PFnChild
open Go.RowKit Go.Proofs.YtpmhninmblgjoaaW.PrintWords Go.Proofs.YtpmhninmblgjoaaW.PrintLast Go.Proofs.YtpmhninmblgjoaaW.PrintMore
attribute [local go_sem] max2_int min2_int max_two min_two max_three min_three max_four min_four   -- for this text's walks alone
set_option linter.unusedVariables false
set_option linter.unusedSimpArgs false

/-! ### spec_TripleIs: function 37 -/
def spec_TripleIs.f (k : Nat) (a0 : Int) (a1 : Int) (a2 : Int) : Option (Bool) := (spec_l6In.f a0 1 100000).bind fun t134 => (if t134 = true then ((spec_l6In.f a1 1 100000).bind fun t135 => (if t135 = true then ((spec_l6In.f a2 1 100000).bind fun t136 => (if t136 = true then (if (wrap64 ((wrap64 (a0 * a0)) + (wrap64 (a1 * a1)))) = (wrap64 (a2 * a2)) then (if (Int.tmod a0 2) = 1 then (if (Int.tmod a1 2) = 0 then ((spec_l1Gcd.f k a0 a1).bind fun t137 => (some (t137 == 1))) else (some false)) else (some false)) else (some false)) else (some false))) else (some false))) else (some false))
theorem spec_TripleIs.mono : ∀ a0 a1 a2 k, LeO (spec_TripleIs.f k a0 a1 a2) (spec_TripleIs.f (k + 1) a0 a1 a2) := by
  intro a0 a1 a2 k
  unfold spec_TripleIs.f
  repeat' first
      | (with_reducible exact spec_l1Gcd.mono _ _ _)
      | (with_reducible exact LeO.refl _)
      | (with_reducible exact LeO.none _)
      | (with_reducible refine LeO.ite ?_ ?_)
      | (with_reducible refine LeO.bind ?_ (fun _ => ?_))
      | exact spec_l1Gcd.mono _ _ _
      | exact LeO.none _
      | refine LeO.ite ?_ ?_
      | refine LeO.bind ?_ (fun _ => ?_)
set_option maxHeartbeats 8000000 in
set_option maxRecDepth 100000 in
theorem spec_TripleIs.calls (k : Nat) (a0 : Int) (a1 : Int) (a2 : Int) (r : Bool) (w : World) (h : spec_TripleIs.f k a0 a1 a2 = some r) :
    Calls Try.prog 37 #[.int .i64 a0, .int .i64 a1, .int .i64 a2] w fun e w' => e = .returned (.bool r) ∧ Below w.heap.size w w' := by
  have HB := Aside0.mk (Below.refl w.heap.size w)
  have H : ((spec_l6In.f a0 1 100000).bind fun t134 => (if t134 = true then ((spec_l6In.f a1 1 100000).bind fun t135 => (if t135 = true then ((spec_l6In.f a2 1 100000).bind fun t136 => (if t136 = true then (if (wrap64 ((wrap64 (a0 * a0)) + (wrap64 (a1 * a1)))) = (wrap64 (a2 * a2)) then (if (Int.tmod a0 2) = 1 then (if (Int.tmod a1 2) = 0 then ((spec_l1Gcd.f k a0 a1).bind fun t137 => (some (t137 == 1))) else (some false)) else (some false)) else (some false)) else (some false))) else (some false))) else (some false))) = some r := h
  clear h
  replace H := Option.bind_eq_some_iff.mp H
  obtain ⟨t134, A40, H⟩ := H
  replace H : (if t134 = true then ((spec_l6In.f a1 1 100000).bind fun t135 => (if t135 = true then ((spec_l6In.f a2 1 100000).bind fun t136 => (if t136 = true then (if (wrap64 ((wrap64 (a0 * a0)) + (wrap64 (a1 * a1)))) = (wrap64 (a2 * a2)) then (if (Int.tmod a0 2) = 1 then (if (Int.tmod a1 2) = 0 then ((spec_l1Gcd.f k a0 a1).bind fun t137 => (some (t137 == 1))) else (some false)) else (some false)) else (some false)) else (some false))) else (some false))) else (some false)) = some r := H
  have A4 := Aside0.mk A40
  clear A40
  by_cases c5 : t134 = true
  · subst c5
    have H1 : ((spec_l6In.f a1 1 100000).bind fun t135 => (if t135 = true then ((spec_l6In.f a2 1 100000).bind fun t136 => (if t136 = true then (if (wrap64 ((wrap64 (a0 * a0)) + (wrap64 (a1 * a1)))) = (wrap64 (a2 * a2)) then (if (Int.tmod a0 2) = 1 then (if (Int.tmod a1 2) = 0 then ((spec_l1Gcd.f k a0 a1).bind fun t137 => (some (t137 == 1))) else (some false)) else (some false)) else (some false)) else (some false))) else (some false))) = some r := by rw [if_pos rfl] at H; exact H
    clear H
    have H := H1
    clear H1
    replace H := Option.bind_eq_some_iff.mp H
    obtain ⟨t135, A60, H⟩ := H
    replace H : (if t135 = true then ((spec_l6In.f a2 1 100000).bind fun t136 => (if t136 = true then (if (wrap64 ((wrap64 (a0 * a0)) + (wrap64 (a1 * a1)))) = (wrap64 (a2 * a2)) then (if (Int.tmod a0 2) = 1 then (if (Int.tmod a1 2) = 0 then ((spec_l1Gcd.f k a0 a1).bind fun t137 => (some (t137 == 1))) else (some false)) else (some false)) else (some false)) else (some false))) else (some false)) = some r := H
    have A6 := Aside0.mk A60
    clear A60
    by_cases c7 : t135 = true
    · subst c7
      have H1 : ((spec_l6In.f a2 1 100000).bind fun t136 => (if t136 = true then (if (wrap64 ((wrap64 (a0 * a0)) + (wrap64 (a1 * a1)))) = (wrap64 (a2 * a2)) then (if (Int.tmod a0 2) = 1 then (if (Int.tmod a1 2) = 0 then ((spec_l1Gcd.f k a0 a1).bind fun t137 => (some (t137 == 1))) else (some false)) else (some false)) else (some false)) else (some false))) = some r := by rw [if_pos rfl] at H; exact H
      clear H
      have H := H1
      clear H1
      replace H := Option.bind_eq_some_iff.mp H
      obtain ⟨t136, A80, H⟩ := H
      replace H : (if t136 = true then (if (wrap64 ((wrap64 (a0 * a0)) + (wrap64 (a1 * a1)))) = (wrap64 (a2 * a2)) then (if (Int.tmod a0 2) = 1 then (if (Int.tmod a1 2) = 0 then ((spec_l1Gcd.f k a0 a1).bind fun t137 => (some (t137 == 1))) else (some false)) else (some false)) else (some false)) else (some false)) = some r := H
      have A8 := Aside0.mk A80
      clear A80
      by_cases c9 : t136 = true
      · subst c9
        have H1 : (if (wrap64 ((wrap64 (a0 * a0)) + (wrap64 (a1 * a1)))) = (wrap64 (a2 * a2)) then (if (Int.tmod a0 2) = 1 then (if (Int.tmod a1 2) = 0 then ((spec_l1Gcd.f k a0 a1).bind fun t137 => (some (t137 == 1))) else (some false)) else (some false)) else (some false)) = some r := by rw [if_pos rfl] at H; exact H
        clear H
        have H := H1
        clear H1
        by_cases c10 : (wrap64 ((wrap64 (a0 * a0)) + (wrap64 (a1 * a1)))) = (wrap64 (a2 * a2))
        · rw [if_pos c10] at H
          have c10b0 : ((wrap64 ((wrap64 (a0 * a0)) + (wrap64 (a1 * a1)))) == (wrap64 (a2 * a2))) = true := beq_iff_eq.mpr c10
          have c10b1 : ((wrap64 ((wrap64 (a0 * a0)) + (wrap64 (a1 * a1)))) != (wrap64 (a2 * a2))) = false := bne_eq_false_iff_eq.mpr c10
          clear c10
          by_cases c11 : (Int.tmod a0 2) = 1
          · rw [if_pos c11] at H
            have c11b0 : ((Int.tmod a0 2) == 1) = true := beq_iff_eq.mpr c11
            have c11b1 : ((Int.tmod a0 2) != 1) = false := bne_eq_false_iff_eq.mpr c11
            clear c11
            by_cases c12 : (Int.tmod a1 2) = 0
            · rw [if_pos c12] at H
              have c12b0 : ((Int.tmod a1 2) == 0) = true := beq_iff_eq.mpr c12
              have c12b1 : ((Int.tmod a1 2) != 0) = false := bne_eq_false_iff_eq.mpr c12
              clear c12
              replace H := Option.bind_eq_some_iff.mp H
              obtain ⟨t137, A130, H⟩ := H
              replace H : (some (t137 == 1)) = some r := H
              have A13 := Aside0.mk A130
              clear A130
              obtain rfl := Option.some.inj H
              go_enter Try.func37, Try.ntmps37
              go_wp2_with (first | ((with_reducible refine gate_callee (f := 42) rfl ?_); refine goesL_ (some 8) rfl rfl Try.func42 (by kernel_rfl) rfl #[.int .i64 a0, .int .i64 1, .int .i64 100000] rfl (by (try simp only [List.map_toArray, List.map_cons, List.map_nil]); first | done | rfl | (simp only [List.length_drop, List.length_take]; rfl)) ?_; (with_reducible refine (spec_l6In.calls a0 1 100000 true _ A4.out).mono ?_); rintro e w' ⟨rfl, ⟨nd, rfl⟩⟩; refine ⟨_, rfl, ?_⟩) | (go_at_call 42; (with_reducible refine (spec_l6In.calls a1 1 100000 true _ A6.out).mono ?_); rintro e w' ⟨rfl, ⟨nd, rfl⟩⟩) | (go_at_call 42; (with_reducible refine (spec_l6In.calls a2 1 100000 true _ A8.out).mono ?_); rintro e w' ⟨rfl, ⟨nd, rfl⟩⟩) | (go_at_call 53; (with_reducible refine (spec_l1Gcd.calls k a0 a1 t137 _ A13.out).mono ?_); rintro e w14 ⟨rfl, hb⟩; have n0_ := Aside0.mk (below_step (by repeat (first | (with_reducible first | exact HB.out | apply below_alloc | apply pw_below_drewN | apply below_drew1) | exact HB.out | exact Below.refl _ _)) hb); try clear HB; have HB := n0_; clear n0_; (try clear hb); (try clear hb2); (try clear hk); (try clear hi)))
              go_ret
              exact ⟨by first | rfl | (simp [errW_none, errW_some] <;> rfl) | (simp [*, errW_none, errW_some] <;> rfl), by repeat (first | (with_reducible first | exact HB.out | apply below_alloc | apply pw_below_drewN | apply below_drew1) | exact HB.out | exact Below.refl _ _)⟩
            rw [if_neg c12] at H
            have c12b0 : ((Int.tmod a1 2) == 0) = false := beq_eq_false_iff_ne.mpr c12
            have c12b1 : ((Int.tmod a1 2) != 0) = true := bne_iff_ne.mpr c12
            obtain rfl := Option.some.inj H
            go_enter Try.func37, Try.ntmps37
            go_wp2_with (first | ((with_reducible refine gate_callee (f := 42) rfl ?_); refine goesL_ (some 8) rfl rfl Try.func42 (by kernel_rfl) rfl #[.int .i64 a0, .int .i64 1, .int .i64 100000] rfl (by (try simp only [List.map_toArray, List.map_cons, List.map_nil]); first | done | rfl | (simp only [List.length_drop, List.length_take]; rfl)) ?_; (with_reducible refine (spec_l6In.calls a0 1 100000 true _ A4.out).mono ?_); rintro e w' ⟨rfl, ⟨nd, rfl⟩⟩; refine ⟨_, rfl, ?_⟩) | (go_at_call 42; (with_reducible refine (spec_l6In.calls a1 1 100000 true _ A6.out).mono ?_); rintro e w' ⟨rfl, ⟨nd, rfl⟩⟩) | (go_at_call 42; (with_reducible refine (spec_l6In.calls a2 1 100000 true _ A8.out).mono ?_); rintro e w' ⟨rfl, ⟨nd, rfl⟩⟩))
            go_ret
            exact ⟨by first | rfl | (simp [errW_none, errW_some] <;> rfl) | (simp [*, errW_none, errW_some] <;> rfl), by repeat (first | (with_reducible first | exact HB.out | apply below_alloc | apply pw_below_drewN | apply below_drew1) | exact HB.out | exact Below.refl _ _)⟩
          rw [if_neg c11] at H
          have c11b0 : ((Int.tmod a0 2) == 1) = false := beq_eq_false_iff_ne.mpr c11
          have c11b1 : ((Int.tmod a0 2) != 1) = true := bne_iff_ne.mpr c11
          obtain rfl := Option.some.inj H
          go_enter Try.func37, Try.ntmps37
          go_wp2_with (first | ((with_reducible refine gate_callee (f := 42) rfl ?_); refine goesL_ (some 8) rfl rfl Try.func42 (by kernel_rfl) rfl #[.int .i64 a0, .int .i64 1, .int .i64 100000] rfl (by (try simp only [List.map_toArray, List.map_cons, List.map_nil]); first | done | rfl | (simp only [List.length_drop, List.length_take]; rfl)) ?_; (with_reducible refine (spec_l6In.calls a0 1 100000 true _ A4.out).mono ?_); rintro e w' ⟨rfl, ⟨nd, rfl⟩⟩; refine ⟨_, rfl, ?_⟩) | (go_at_call 42; (with_reducible refine (spec_l6In.calls a1 1 100000 true _ A6.out).mono ?_); rintro e w' ⟨rfl, ⟨nd, rfl⟩⟩) | (go_at_call 42; (with_reducible refine (spec_l6In.calls a2 1 100000 true _ A8.out).mono ?_); rintro e w' ⟨rfl, ⟨nd, rfl⟩⟩))
          go_ret
          exact ⟨by first | rfl | (simp [errW_none, errW_some] <;> rfl) | (simp [*, errW_none, errW_some] <;> rfl), by repeat (first | (with_reducible first | exact HB.out | apply below_alloc | apply pw_below_drewN | apply below_drew1) | exact HB.out | exact Below.refl _ _)⟩
        rw [if_neg c10] at H
        have c10b0 : ((wrap64 ((wrap64 (a0 * a0)) + (wrap64 (a1 * a1)))) == (wrap64 (a2 * a2))) = false := beq_eq_false_iff_ne.mpr c10
        have c10b1 : ((wrap64 ((wrap64 (a0 * a0)) + (wrap64 (a1 * a1)))) != (wrap64 (a2 * a2))) = true := bne_iff_ne.mpr c10
        obtain rfl := Option.some.inj H
        go_enter Try.func37, Try.ntmps37
        go_wp2_with (first | ((with_reducible refine gate_callee (f := 42) rfl ?_); refine goesL_ (some 8) rfl rfl Try.func42 (by kernel_rfl) rfl #[.int .i64 a0, .int .i64 1, .int .i64 100000] rfl (by (try simp only [List.map_toArray, List.map_cons, List.map_nil]); first | done | rfl | (simp only [List.length_drop, List.length_take]; rfl)) ?_; (with_reducible refine (spec_l6In.calls a0 1 100000 true _ A4.out).mono ?_); rintro e w' ⟨rfl, ⟨nd, rfl⟩⟩; refine ⟨_, rfl, ?_⟩) | (go_at_call 42; (with_reducible refine (spec_l6In.calls a1 1 100000 true _ A6.out).mono ?_); rintro e w' ⟨rfl, ⟨nd, rfl⟩⟩) | (go_at_call 42; (with_reducible refine (spec_l6In.calls a2 1 100000 true _ A8.out).mono ?_); rintro e w' ⟨rfl, ⟨nd, rfl⟩⟩))
        go_ret
        exact ⟨by first | rfl | (simp [errW_none, errW_some] <;> rfl) | (simp [*, errW_none, errW_some] <;> rfl), by repeat (first | (with_reducible first | exact HB.out | apply below_alloc | apply pw_below_drewN | apply below_drew1) | exact HB.out | exact Below.refl _ _)⟩
      replace c9 := Bool.eq_false_iff.mpr c9
      subst c9
      have H1 : (some false) = some r := by rw [if_neg (show ¬ (false = true) by decide)] at H; exact H
      clear H
      have H := H1
      clear H1
      obtain rfl := Option.some.inj H
      go_enter Try.func37, Try.ntmps37
      go_wp2_with (first | ((with_reducible refine gate_callee (f := 42) rfl ?_); refine goesL_ (some 8) rfl rfl Try.func42 (by kernel_rfl) rfl #[.int .i64 a0, .int .i64 1, .int .i64 100000] rfl (by (try simp only [List.map_toArray, List.map_cons, List.map_nil]); first | done | rfl | (simp only [List.length_drop, List.length_take]; rfl)) ?_; (with_reducible refine (spec_l6In.calls a0 1 100000 true _ A4.out).mono ?_); rintro e w' ⟨rfl, ⟨nd, rfl⟩⟩; refine ⟨_, rfl, ?_⟩) | (go_at_call 42; (with_reducible refine (spec_l6In.calls a1 1 100000 true _ A6.out).mono ?_); rintro e w' ⟨rfl, ⟨nd, rfl⟩⟩) | (go_at_call 42; (with_reducible refine (spec_l6In.calls a2 1 100000 false _ A8.out).mono ?_); rintro e w' ⟨rfl, ⟨nd, rfl⟩⟩))
      go_ret
      exact ⟨by first | rfl | (simp [errW_none, errW_some] <;> rfl) | (simp [*, errW_none, errW_some] <;> rfl), by repeat (first | (with_reducible first | exact HB.out | apply below_alloc | apply pw_below_drewN | apply below_drew1) | exact HB.out | exact Below.refl _ _)⟩
    replace c7 := Bool.eq_false_iff.mpr c7
    subst c7
    have H1 : (some false) = some r := by rw [if_neg (show ¬ (false = true) by decide)] at H; exact H
    clear H
    have H := H1
    clear H1
    obtain rfl := Option.some.inj H
    go_enter Try.func37, Try.ntmps37
    go_wp2_with (first | ((with_reducible refine gate_callee (f := 42) rfl ?_); refine goesL_ (some 8) rfl rfl Try.func42 (by kernel_rfl) rfl #[.int .i64 a0, .int .i64 1, .int .i64 100000] rfl (by (try simp only [List.map_toArray, List.map_cons, List.map_nil]); first | done | rfl | (simp only [List.length_drop, List.length_take]; rfl)) ?_; (with_reducible refine (spec_l6In.calls a0 1 100000 true _ A4.out).mono ?_); rintro e w' ⟨rfl, ⟨nd, rfl⟩⟩; refine ⟨_, rfl, ?_⟩) | (go_at_call 42; (with_reducible refine (spec_l6In.calls a1 1 100000 false _ A6.out).mono ?_); rintro e w' ⟨rfl, ⟨nd, rfl⟩⟩))
    go_ret
    exact ⟨by first | rfl | (simp [errW_none, errW_some] <;> rfl) | (simp [*, errW_none, errW_some] <;> rfl), by repeat (first | (with_reducible first | exact HB.out | apply below_alloc | apply pw_below_drewN | apply below_drew1) | exact HB.out | exact Below.refl _ _)⟩
  replace c5 := Bool.eq_false_iff.mpr c5
  subst c5
  have H1 : (some false) = some r := by rw [if_neg (show ¬ (false = true) by decide)] at H; exact H
  clear H
  have H := H1
  clear H1
  obtain rfl := Option.some.inj H
  go_enter Try.func37, Try.ntmps37
  go_wp2_with (first | ((with_reducible refine gate_callee (f := 42) rfl ?_); refine goesL_ (some 8) rfl rfl Try.func42 (by kernel_rfl) rfl #[.int .i64 a0, .int .i64 1, .int .i64 100000] rfl (by (try simp only [List.map_toArray, List.map_cons, List.map_nil]); first | done | rfl | (simp only [List.length_drop, List.length_take]; rfl)) ?_; (with_reducible refine (spec_l6In.calls a0 1 100000 false _ A4.out).mono ?_); rintro e w' ⟨rfl, ⟨nd, rfl⟩⟩; refine ⟨_, rfl, ?_⟩))
  go_ret
  exact ⟨by first | rfl | (simp [errW_none, errW_some] <;> rfl) | (simp [*, errW_none, errW_some] <;> rfl), by repeat (first | (with_reducible first | exact HB.out | apply below_alloc | apply pw_below_drewN | apply below_drew1) | exact HB.out | exact Below.refl _ _)⟩

/-! ### spec_TripleMake: function 15 -/
def spec_TripleMake.f (k : Nat) (a0 : Int) (a1 : Int) : Option (Int × Int × Int × Bool) := (spec_l6In.f a0 2 316).bind fun t138 => (if t138 = true then ((spec_l6In.f a1 1 (wrap64 (a0 - 1))).bind fun t139 => (if t139 = true then ((spec_TripleIs.f k (wrap64 ((wrap64 (a0 * a0)) - (wrap64 (a1 * a1)))) (wrap64 ((wrap64 (2 * a0)) * a1)) (wrap64 ((wrap64 (a0 * a0)) + (wrap64 (a1 * a1))))).bind fun t140 => (if t140 = true then (some (wrap64 ((wrap64 (a0 * a0)) - (wrap64 (a1 * a1))), wrap64 ((wrap64 (2 * a0)) * a1), wrap64 ((wrap64 (a0 * a0)) + (wrap64 (a1 * a1))), true)) else (some (0, 0, 0, false)))) else (some (0, 0, 0, false)))) else (some (0, 0, 0, false)))
theorem spec_TripleMake.mono : ∀ a0 a1 k, LeO (spec_TripleMake.f k a0 a1) (spec_TripleMake.f (k + 1) a0 a1) := by
  intro a0 a1 k
  unfold spec_TripleMake.f
  repeat' first
      | (with_reducible exact spec_TripleIs.mono _ _ _ _)
      | (with_reducible exact LeO.refl _)
      | (with_reducible exact LeO.none _)
      | (with_reducible refine LeO.ite ?_ ?_)
      | (with_reducible refine LeO.bind ?_ (fun _ => ?_))
      | exact spec_TripleIs.mono _ _ _ _
      | exact LeO.none _
      | refine LeO.ite ?_ ?_
      | refine LeO.bind ?_ (fun _ => ?_)
set_option maxHeartbeats 8000000 in
set_option maxRecDepth 100000 in
theorem spec_TripleMake.calls (k : Nat) (a0 : Int) (a1 : Int) (r1 : Int) (r2 : Int) (r3 : Int) (r4 : Bool) (w : World) (h : spec_TripleMake.f k a0 a1 = some (r1, r2, r3, r4)) :
    Calls Try.prog 15 #[.int .i64 a0, .int .i64 a1] w fun e w' => e = .returned (.tuple #[.int .i64 r1, .int .i64 r2, .int .i64 r3, .bool r4]) ∧ Below w.heap.size w w' := by
  have HB := Aside0.mk (Below.refl w.heap.size w)
  have H : ((spec_l6In.f a0 2 316).bind fun t138 => (if t138 = true then ((spec_l6In.f a1 1 (wrap64 (a0 - 1))).bind fun t139 => (if t139 = true then ((spec_TripleIs.f k (wrap64 ((wrap64 (a0 * a0)) - (wrap64 (a1 * a1)))) (wrap64 ((wrap64 (2 * a0)) * a1)) (wrap64 ((wrap64 (a0 * a0)) + (wrap64 (a1 * a1))))).bind fun t140 => (if t140 = true then (some (wrap64 ((wrap64 (a0 * a0)) - (wrap64 (a1 * a1))), wrap64 ((wrap64 (2 * a0)) * a1), wrap64 ((wrap64 (a0 * a0)) + (wrap64 (a1 * a1))), true)) else (some (0, 0, 0, false)))) else (some (0, 0, 0, false)))) else (some (0, 0, 0, false)))) = some (r1, r2, r3, r4) := h
  clear h
  replace H := Option.bind_eq_some_iff.mp H
  obtain ⟨t138, A30, H⟩ := H
  replace H : (if t138 = true then ((spec_l6In.f a1 1 (wrap64 (a0 - 1))).bind fun t139 => (if t139 = true then ((spec_TripleIs.f k (wrap64 ((wrap64 (a0 * a0)) - (wrap64 (a1 * a1)))) (wrap64 ((wrap64 (2 * a0)) * a1)) (wrap64 ((wrap64 (a0 * a0)) + (wrap64 (a1 * a1))))).bind fun t140 => (if t140 = true then (some (wrap64 ((wrap64 (a0 * a0)) - (wrap64 (a1 * a1))), wrap64 ((wrap64 (2 * a0)) * a1), wrap64 ((wrap64 (a0 * a0)) + (wrap64 (a1 * a1))), true)) else (some (0, 0, 0, false)))) else (some (0, 0, 0, false)))) else (some (0, 0, 0, false))) = some (r1, r2, r3, r4) := H
  have A3 := Aside0.mk A30
  clear A30
  by_cases c4 : t138 = true
  · subst c4
    have H1 : ((spec_l6In.f a1 1 (wrap64 (a0 - 1))).bind fun t139 => (if t139 = true then ((spec_TripleIs.f k (wrap64 ((wrap64 (a0 * a0)) - (wrap64 (a1 * a1)))) (wrap64 ((wrap64 (2 * a0)) * a1)) (wrap64 ((wrap64 (a0 * a0)) + (wrap64 (a1 * a1))))).bind fun t140 => (if t140 = true then (some (wrap64 ((wrap64 (a0 * a0)) - (wrap64 (a1 * a1))), wrap64 ((wrap64 (2 * a0)) * a1), wrap64 ((wrap64 (a0 * a0)) + (wrap64 (a1 * a1))), true)) else (some (0, 0, 0, false)))) else (some (0, 0, 0, false)))) = some (r1, r2, r3, r4) := by rw [if_pos rfl] at H; exact H
    clear H
    have H := H1
    clear H1
    replace H := Option.bind_eq_some_iff.mp H
    obtain ⟨t139, A50, H⟩ := H
    replace H : (if t139 = true then ((spec_TripleIs.f k (wrap64 ((wrap64 (a0 * a0)) - (wrap64 (a1 * a1)))) (wrap64 ((wrap64 (2 * a0)) * a1)) (wrap64 ((wrap64 (a0 * a0)) + (wrap64 (a1 * a1))))).bind fun t140 => (if t140 = true then (some (wrap64 ((wrap64 (a0 * a0)) - (wrap64 (a1 * a1))), wrap64 ((wrap64 (2 * a0)) * a1), wrap64 ((wrap64 (a0 * a0)) + (wrap64 (a1 * a1))), true)) else (some (0, 0, 0, false)))) else (some (0, 0, 0, false))) = some (r1, r2, r3, r4) := H
    have A5 := Aside0.mk A50
    clear A50
    by_cases c6 : t139 = true
    · subst c6
      have H1 : ((spec_TripleIs.f k (wrap64 ((wrap64 (a0 * a0)) - (wrap64 (a1 * a1)))) (wrap64 ((wrap64 (2 * a0)) * a1)) (wrap64 ((wrap64 (a0 * a0)) + (wrap64 (a1 * a1))))).bind fun t140 => (if t140 = true then (some (wrap64 ((wrap64 (a0 * a0)) - (wrap64 (a1 * a1))), wrap64 ((wrap64 (2 * a0)) * a1), wrap64 ((wrap64 (a0 * a0)) + (wrap64 (a1 * a1))), true)) else (some (0, 0, 0, false)))) = some (r1, r2, r3, r4) := by rw [if_pos rfl] at H; exact H
      clear H
      have H := H1
      clear H1
      replace H := Option.bind_eq_some_iff.mp H
      obtain ⟨t140, A70, H⟩ := H
      replace H : (if t140 = true then (some (wrap64 ((wrap64 (a0 * a0)) - (wrap64 (a1 * a1))), wrap64 ((wrap64 (2 * a0)) * a1), wrap64 ((wrap64 (a0 * a0)) + (wrap64 (a1 * a1))), true)) else (some (0, 0, 0, false))) = some (r1, r2, r3, r4) := H
      have A7 := Aside0.mk A70
      clear A70
      by_cases c8 : t140 = true
      · subst c8
        have H1 : (some (wrap64 ((wrap64 (a0 * a0)) - (wrap64 (a1 * a1))), wrap64 ((wrap64 (2 * a0)) * a1), wrap64 ((wrap64 (a0 * a0)) + (wrap64 (a1 * a1))), true)) = some (r1, r2, r3, r4) := by rw [if_pos rfl] at H; exact H
        clear H
        have H := H1
        clear H1
        simp only [Option.some.injEq, Prod.mk.injEq] at H
        obtain ⟨rfl, rfl, rfl, rfl⟩ := H
        go_enter Try.func15, Try.ntmps15
        go_wp2_with (first | ((with_reducible refine gate_callee (f := 42) rfl ?_); refine goesL_ (some 9) rfl rfl Try.func42 (by kernel_rfl) rfl #[.int .i64 a0, .int .i64 2, .int .i64 316] rfl (by (try simp only [List.map_toArray, List.map_cons, List.map_nil]); first | done | rfl | (simp only [List.length_drop, List.length_take]; rfl)) ?_; (with_reducible refine (spec_l6In.calls a0 2 316 true _ A3.out).mono ?_); rintro e w' ⟨rfl, ⟨nd, rfl⟩⟩; refine ⟨_, rfl, ?_⟩) | (go_at_call 42; (with_reducible refine (spec_l6In.calls a1 1 (wrap64 (a0 - 1)) true _ A5.out).mono ?_); rintro e w' ⟨rfl, ⟨nd, rfl⟩⟩) | (go_at_call 37; (with_reducible refine (spec_TripleIs.calls k (wrap64 ((wrap64 (a0 * a0)) - (wrap64 (a1 * a1)))) (wrap64 ((wrap64 (2 * a0)) * a1)) (wrap64 ((wrap64 (a0 * a0)) + (wrap64 (a1 * a1)))) true _ A7.out).mono ?_); rintro e w9 ⟨rfl, hb⟩; have n0_ := Aside0.mk (below_step (by repeat (first | (with_reducible first | exact HB.out | apply below_alloc | apply pw_below_drewN | apply below_drew1) | exact HB.out | exact Below.refl _ _)) hb); try clear HB; have HB := n0_; clear n0_; (try clear hb); (try clear hb2); (try clear hk); (try clear hi)))
        refine bodyPost_ret (results_list (rs := [.tmp 4, .tmp 5, .tmp 6, .tmp 7]) rfl (by simp) (.tmp (.tmp (.tmp (.tmp .nil))))) rfl ?_
        exact ⟨by first | rfl | (simp [errW_none, errW_some] <;> rfl) | (simp [*, errW_none, errW_some] <;> rfl), by repeat (first | (with_reducible first | exact HB.out | apply below_alloc | apply pw_below_drewN | apply below_drew1) | exact HB.out | exact Below.refl _ _)⟩
      replace c8 := Bool.eq_false_iff.mpr c8
      subst c8
      have H1 : (some (0, 0, 0, false)) = some (r1, r2, r3, r4) := by rw [if_neg (show ¬ (false = true) by decide)] at H; exact H
      clear H
      have H := H1
      clear H1
      simp only [Option.some.injEq, Prod.mk.injEq] at H
      obtain ⟨rfl, rfl, rfl, rfl⟩ := H
      go_enter Try.func15, Try.ntmps15
      go_wp2_with (first | ((with_reducible refine gate_callee (f := 42) rfl ?_); refine goesL_ (some 9) rfl rfl Try.func42 (by kernel_rfl) rfl #[.int .i64 a0, .int .i64 2, .int .i64 316] rfl (by (try simp only [List.map_toArray, List.map_cons, List.map_nil]); first | done | rfl | (simp only [List.length_drop, List.length_take]; rfl)) ?_; (with_reducible refine (spec_l6In.calls a0 2 316 true _ A3.out).mono ?_); rintro e w' ⟨rfl, ⟨nd, rfl⟩⟩; refine ⟨_, rfl, ?_⟩) | (go_at_call 42; (with_reducible refine (spec_l6In.calls a1 1 (wrap64 (a0 - 1)) true _ A5.out).mono ?_); rintro e w' ⟨rfl, ⟨nd, rfl⟩⟩) | (go_at_call 37; (with_reducible refine (spec_TripleIs.calls k (wrap64 ((wrap64 (a0 * a0)) - (wrap64 (a1 * a1)))) (wrap64 ((wrap64 (2 * a0)) * a1)) (wrap64 ((wrap64 (a0 * a0)) + (wrap64 (a1 * a1)))) false _ A7.out).mono ?_); rintro e w10 ⟨rfl, hb⟩; have n0_ := Aside0.mk (below_step (by repeat (first | (with_reducible first | exact HB.out | apply below_alloc | apply pw_below_drewN | apply below_drew1) | exact HB.out | exact Below.refl _ _)) hb); try clear HB; have HB := n0_; clear n0_; (try clear hb); (try clear hb2); (try clear hk); (try clear hi)))
      refine bodyPost_ret (results_list (rs := [.tmp 4, .tmp 5, .tmp 6, .tmp 7]) rfl (by simp) (.tmp (.tmp (.tmp (.tmp .nil))))) rfl ?_
      exact ⟨by first | rfl | (simp [errW_none, errW_some] <;> rfl) | (simp [*, errW_none, errW_some] <;> rfl), by repeat (first | (with_reducible first | exact HB.out | apply below_alloc | apply pw_below_drewN | apply below_drew1) | exact HB.out | exact Below.refl _ _)⟩
    replace c6 := Bool.eq_false_iff.mpr c6
    subst c6
    have H1 : (some (0, 0, 0, false)) = some (r1, r2, r3, r4) := by rw [if_neg (show ¬ (false = true) by decide)] at H; exact H
    clear H
    have H := H1
    clear H1
    simp only [Option.some.injEq, Prod.mk.injEq] at H
    obtain ⟨rfl, rfl, rfl, rfl⟩ := H
    go_enter Try.func15, Try.ntmps15
    go_wp2_with (first | ((with_reducible refine gate_callee (f := 42) rfl ?_); refine goesL_ (some 9) rfl rfl Try.func42 (by kernel_rfl) rfl #[.int .i64 a0, .int .i64 2, .int .i64 316] rfl (by (try simp only [List.map_toArray, List.map_cons, List.map_nil]); first | done | rfl | (simp only [List.length_drop, List.length_take]; rfl)) ?_; (with_reducible refine (spec_l6In.calls a0 2 316 true _ A3.out).mono ?_); rintro e w' ⟨rfl, ⟨nd, rfl⟩⟩; refine ⟨_, rfl, ?_⟩) | (go_at_call 42; (with_reducible refine (spec_l6In.calls a1 1 (wrap64 (a0 - 1)) false _ A5.out).mono ?_); rintro e w' ⟨rfl, ⟨nd, rfl⟩⟩))
    refine bodyPost_ret (results_list (rs := [.tmp 4, .tmp 5, .tmp 6, .tmp 7]) rfl (by simp) (.tmp (.tmp (.tmp (.tmp .nil))))) rfl ?_
    exact ⟨by first | rfl | (simp [errW_none, errW_some] <;> rfl) | (simp [*, errW_none, errW_some] <;> rfl), by repeat (first | (with_reducible first | exact HB.out | apply below_alloc | apply pw_below_drewN | apply below_drew1) | exact HB.out | exact Below.refl _ _)⟩
  replace c4 := Bool.eq_false_iff.mpr c4
  subst c4
  have H1 : (some (0, 0, 0, false)) = some (r1, r2, r3, r4) := by rw [if_neg (show ¬ (false = true) by decide)] at H; exact H
  clear H
  have H := H1
  clear H1
  simp only [Option.some.injEq, Prod.mk.injEq] at H
  obtain ⟨rfl, rfl, rfl, rfl⟩ := H
  go_enter Try.func15, Try.ntmps15
  go_wp2_with (first | ((with_reducible refine gate_callee (f := 42) rfl ?_); refine goesL_ (some 9) rfl rfl Try.func42 (by kernel_rfl) rfl #[.int .i64 a0, .int .i64 2, .int .i64 316] rfl (by (try simp only [List.map_toArray, List.map_cons, List.map_nil]); first | done | rfl | (simp only [List.length_drop, List.length_take]; rfl)) ?_; (with_reducible refine (spec_l6In.calls a0 2 316 false _ A3.out).mono ?_); rintro e w' ⟨rfl, ⟨nd, rfl⟩⟩; refine ⟨_, rfl, ?_⟩))
  refine bodyPost_ret (results_list (rs := [.tmp 4, .tmp 5, .tmp 6, .tmp 7]) rfl (by simp) (.tmp (.tmp (.tmp (.tmp .nil))))) rfl ?_
  exact ⟨by first | rfl | (simp [errW_none, errW_some] <;> rfl) | (simp [*, errW_none, errW_some] <;> rfl), by repeat (first | (with_reducible first | exact HB.out | apply below_alloc | apply pw_below_drewN | apply below_drew1) | exact HB.out | exact Below.refl _ _)⟩

/-! ### spec_l5Root: function 57 -/
def spec_l5Root.l0 : Nat → Int → Int → Int → Option (Int)
  | 0, _, _, _ => none
  | k + 1, x0, x3, x4 => if x3 < x4 then (if (wrap64 ((wrap64 (Int.tdiv (wrap64 (x3 + x4)) 2)) * (wrap64 (Int.tdiv (wrap64 (x3 + x4)) 2)))) < x0 then (spec_l5Root.l0 k x0 (wrap64 ((wrap64 (Int.tdiv (wrap64 (x3 + x4)) 2)) + 1)) x4) else (spec_l5Root.l0 k x0 x3 (wrap64 (Int.tdiv (wrap64 (x3 + x4)) 2)))) else (if (wrap64 (x3 * x3)) = x0 then (some x3) else (some (-1)))
def spec_l5Root.f (k : Nat) (a0 : Int) : Option (Int) := spec_l5Root.l0 k a0 0 1048576
theorem spec_l5Root.mono_l : ∀ k, (∀ y0 y1 y2, LeO (spec_l5Root.l0 k y0 y1 y2) (spec_l5Root.l0 (k + 1) y0 y1 y2))
  | 0 => fun _ _ _ r h => by simp [spec_l5Root.l0] at h
  | k + 1 => by
    have ih0 := spec_l5Root.mono_l k
    · intro y0 y1 y2
      unfold spec_l5Root.l0
      repeat' first
      | (with_reducible exact ih0 _ _ _)
      | (with_reducible exact LeO.refl _)
      | (with_reducible exact LeO.none _)
      | (with_reducible refine LeO.ite ?_ ?_)
      | (with_reducible refine LeO.bind ?_ (fun _ => ?_))
      | exact ih0 _ _ _
      | exact LeO.none _
      | refine LeO.ite ?_ ?_
      | refine LeO.bind ?_ (fun _ => ?_)
theorem spec_l5Root.mono : ∀ a0 k, LeO (spec_l5Root.f k a0) (spec_l5Root.f (k + 1) a0) := by
  intro a0 k
  have ih0 := spec_l5Root.mono_l k
  unfold spec_l5Root.f
  repeat' first
      | (with_reducible exact ih0 _ _ _)
      | (with_reducible exact LeO.refl _)
      | (with_reducible exact LeO.none _)
      | (with_reducible refine LeO.ite ?_ ?_)
      | (with_reducible refine LeO.bind ?_ (fun _ => ?_))
      | exact ih0 _ _ _
      | exact LeO.none _
      | refine LeO.ite ?_ ?_
      | refine LeO.bind ?_ (fun _ => ?_)
set_option maxHeartbeats 8000000 in
set_option maxRecDepth 100000 in
theorem spec_l5Root.calls (k : Nat) (a0 : Int) (r : Int) (w : World) (h : spec_l5Root.f k a0 = some r) :
    Calls Try.prog 57 #[.int .i64 a0] w fun e w' => e = .returned (.int .i64 r) ∧ Drawn0 w w' := by
  have H : (spec_l5Root.l0 k a0 0 1048576) = some r := h
  clear h
  have H' := Aside0.mk H
  clear H
  go_enter Try.func57, Try.ntmps57
  go_wp2
  go_loopg [3, 4] k (fun kq v3 v4 w' => ∃ (x3_1 : Int) (x4_1 : Int), v3 = .int .i64 x3_1 ∧ v4 = .int .i64 x4_1 ∧ Aside0 (spec_l5Root.l0 kq a0 x3_1 x4_1 = some r) ∧ Aside0 (kq ≤ k) ∧ Drawn0 w w')
  case atStart => exact ⟨(0), (1048576), (by first | rfl | (simp; done) | (simp [*]; done)), (by first | rfl | (simp; done) | (simp [*]; done)), H', ⟨Nat.le_refl _⟩, by repeat (first | exact Drawn0.refl _ | apply Drawn0.step)⟩
  case round =>
    clear H'
    obtain ⟨x3_1, x4_1, rfl, rfl, HA, HK1, ⟨m1, rfl⟩⟩ := hrel
    cases gk with
    | zero => exact absurd HA.out (by simp [spec_l5Root.l0])
    | succ k1 =>
      have H := HA.out
      clear HA
      simp only [spec_l5Root.l0] at H
      by_cases c2 : x3_1 < x4_1
      · rw [if_pos c2] at H
        have c2b0 : decide (x3_1 < x4_1) = true := decide_eq_true c2
        clear c2
        by_cases c3 : (wrap64 ((wrap64 (Int.tdiv (wrap64 (x3_1 + x4_1)) 2)) * (wrap64 (Int.tdiv (wrap64 (x3_1 + x4_1)) 2)))) < a0
        · rw [if_pos c3] at H
          have c3b0 : decide ((wrap64 ((wrap64 (Int.tdiv (wrap64 (x3_1 + x4_1)) 2)) * (wrap64 (Int.tdiv (wrap64 (x3_1 + x4_1)) 2)))) < a0) = true := decide_eq_true c3
          clear c3
          have H' := Aside0.mk H
          clear H
          go_wp2
          go_roundg k1
          case measure => have := HK1.out; omega
          case rel => exact ⟨(wrap64 ((wrap64 (Int.tdiv (wrap64 (x3_1 + x4_1)) 2)) + 1)), (x4_1), (by first | rfl | (simp; done) | (simp [*]; done)), (by first | rfl | (simp; done) | (simp [*]; done)), H', ⟨by have := HK1.out; omega⟩, by repeat (first | exact Drawn0.refl _ | apply Drawn0.step)⟩
        rw [if_neg c3] at H
        have c3b0 : decide ((wrap64 ((wrap64 (Int.tdiv (wrap64 (x3_1 + x4_1)) 2)) * (wrap64 (Int.tdiv (wrap64 (x3_1 + x4_1)) 2)))) < a0) = false := decide_eq_false c3
        clear c3
        have H' := Aside0.mk H
        clear H
        go_wp2
        go_roundg k1
        case measure => have := HK1.out; omega
        case rel => exact ⟨(x3_1), (wrap64 (Int.tdiv (wrap64 (x3_1 + x4_1)) 2)), (by first | rfl | (simp; done) | (simp [*]; done)), (by first | rfl | (simp; done) | (simp [*]; done)), H', ⟨by have := HK1.out; omega⟩, by repeat (first | exact Drawn0.refl _ | apply Drawn0.step)⟩
      rw [if_neg c2] at H
      have c2b0 : decide (x3_1 < x4_1) = false := decide_eq_false c2
      clear c2
      by_cases c4 : (wrap64 (x3_1 * x3_1)) = a0
      · rw [if_pos c4] at H
        have c4b0 : ((wrap64 (x3_1 * x3_1)) == a0) = true := beq_iff_eq.mpr c4
        have c4b1 : ((wrap64 (x3_1 * x3_1)) != a0) = false := bne_eq_false_iff_eq.mpr c4
        clear c4
        obtain rfl := Option.some.inj H
        go_wp2
        go_ret
        exact ⟨by first | rfl | (simp; done) | (simp [*]; done), by repeat (first | exact Drawn0.refl _ | apply Drawn0.step)⟩
      rw [if_neg c4] at H
      have c4b0 : ((wrap64 (x3_1 * x3_1)) == a0) = false := beq_eq_false_iff_ne.mpr c4
      have c4b1 : ((wrap64 (x3_1 * x3_1)) != a0) = true := bne_iff_ne.mpr c4
      obtain rfl := Option.some.inj H
      go_wp2
      go_ret
      exact ⟨by first | rfl | (simp; done) | (simp [*]; done), by repeat (first | exact Drawn0.refl _ | apply Drawn0.step)⟩

/-! ### spec_l6kBack: function 47 -/
def spec_l6kBack.f (k : Nat) (a0 : Int) (a1 : Int) : Option (Int × Int) := (spec_l5Root.f k (wrap64 (Int.tdiv (wrap64 (a1 + a0)) 2))).bind fun t141 => ((spec_l5Root.f k (wrap64 (Int.tdiv (wrap64 (a1 - a0)) 2))).bind fun t142 => (some (t141, t142)))
theorem spec_l6kBack.mono : ∀ a0 a1 k, LeO (spec_l6kBack.f k a0 a1) (spec_l6kBack.f (k + 1) a0 a1) := by
  intro a0 a1 k
  unfold spec_l6kBack.f
  repeat' first
      | (with_reducible exact spec_l5Root.mono _ _)
      | (with_reducible exact LeO.refl _)
      | (with_reducible exact LeO.none _)
      | (with_reducible refine LeO.ite ?_ ?_)
      | (with_reducible refine LeO.bind ?_ (fun _ => ?_))
      | exact spec_l5Root.mono _ _
      | exact LeO.none _
      | refine LeO.ite ?_ ?_
      | refine LeO.bind ?_ (fun _ => ?_)
set_option maxHeartbeats 8000000 in
set_option maxRecDepth 100000 in
theorem spec_l6kBack.calls (k : Nat) (a0 : Int) (a1 : Int) (r1 : Int) (r2 : Int) (w : World) (h : spec_l6kBack.f k a0 a1 = some (r1, r2)) :
    Calls Try.prog 47 #[.int .i64 a0, .int .i64 a1] w fun e w' => e = .returned (.tuple #[.int .i64 r1, .int .i64 r2]) ∧ Drawn0 w w' := by
  have H : ((spec_l5Root.f k (wrap64 (Int.tdiv (wrap64 (a1 + a0)) 2))).bind fun t141 => ((spec_l5Root.f k (wrap64 (Int.tdiv (wrap64 (a1 - a0)) 2))).bind fun t142 => (some (t141, t142)))) = some (r1, r2) := h
  clear h
  replace H := Option.bind_eq_some_iff.mp H
  obtain ⟨t141, A30, H⟩ := H
  replace H : ((spec_l5Root.f k (wrap64 (Int.tdiv (wrap64 (a1 - a0)) 2))).bind fun t142 => (some (t141, t142))) = some (r1, r2) := H
  have A3 := Aside0.mk A30
  clear A30
  replace H := Option.bind_eq_some_iff.mp H
  obtain ⟨t142, A40, H⟩ := H
  replace H : (some (t141, t142)) = some (r1, r2) := H
  have A4 := Aside0.mk A40
  clear A40
  simp only [Option.some.injEq, Prod.mk.injEq] at H
  obtain ⟨rfl, rfl⟩ := H
  go_enter Try.func47, Try.ntmps47
  go_wp2_with (first | ((with_reducible refine gate_callee (f := 57) rfl ?_); refine goesL_ (some 10) rfl rfl Try.func57 (by kernel_rfl) rfl #[.int .i64 (wrap64 (Int.tdiv (wrap64 (a1 + a0)) 2))] rfl (by (try simp only [List.map_toArray, List.map_cons, List.map_nil]); first | done | rfl | (simp only [List.length_drop, List.length_take]; rfl)) ?_; (with_reducible refine (spec_l5Root.calls k (wrap64 (Int.tdiv (wrap64 (a1 + a0)) 2)) t141 _ A3.out).mono ?_); rintro e w' ⟨rfl, ⟨nd, rfl⟩⟩; refine ⟨_, rfl, ?_⟩) | ((with_reducible refine gate_callee (f := 57) rfl ?_); refine goesL_ (some 15) rfl rfl Try.func57 (by kernel_rfl) rfl #[.int .i64 (wrap64 (Int.tdiv (wrap64 (a1 - a0)) 2))] rfl (by (try simp only [List.map_toArray, List.map_cons, List.map_nil]); first | done | rfl | (simp only [List.length_drop, List.length_take]; rfl)) ?_; (with_reducible refine (spec_l5Root.calls k (wrap64 (Int.tdiv (wrap64 (a1 - a0)) 2)) t142 _ A4.out).mono ?_); rintro e w' ⟨rfl, ⟨nd, rfl⟩⟩; refine ⟨_, rfl, ?_⟩))
  go_ret2
  exact ⟨by first | rfl | (simp; done) | (simp [*]; done), by repeat (first | exact Drawn0.refl _ | apply Drawn0.step)⟩

/-! ### spec_TripleChild: function 31 -/
def spec_TripleChild.f (k : Nat) (a0 : Int) (a1 : Int) (a2 : Int) (a3 : Int) : Option (Int × Int × Int × Bool) := (spec_TripleIs.f k a0 a1 a2).bind fun t143 => (if t143 = true then ((spec_l6kBack.f k a0 a2).bind fun bt144 => (if a3 = 0 then ((spec_TripleMake.f k (wrap64 ((wrap64 (2 * bt144.1)) - bt144.2)) bt144.1).bind fun bt146 => (some (bt146.1, bt146.2.1, bt146.2.2.1, bt146.2.2.2))) else (if a3 = 1 then ((spec_TripleMake.f k (wrap64 ((wrap64 (2 * bt144.1)) + bt144.2)) bt144.1).bind fun bt150 => (some (bt150.1, bt150.2.1, bt150.2.2.1, bt150.2.2.2))) else (if a3 = 2 then ((spec_TripleMake.f k (wrap64 (bt144.1 + (wrap64 (2 * bt144.2)))) bt144.2).bind fun bt154 => (some (bt154.1, bt154.2.1, bt154.2.2.1, bt154.2.2.2))) else (some (0, 0, 0, false)))))) else (some (0, 0, 0, false)))
theorem spec_TripleChild.mono : ∀ a0 a1 a2 a3 k, LeO (spec_TripleChild.f k a0 a1 a2 a3) (spec_TripleChild.f (k + 1) a0 a1 a2 a3) := by
  intro a0 a1 a2 a3 k
  unfold spec_TripleChild.f
  repeat' first
      | (with_reducible exact spec_TripleIs.mono _ _ _ _)
      | (with_reducible exact spec_TripleMake.mono _ _ _)
      | (with_reducible exact spec_l6kBack.mono _ _ _)
      | (with_reducible exact LeO.refl _)
      | (with_reducible exact LeO.none _)
      | (with_reducible refine LeO.ite ?_ ?_)
      | (with_reducible refine LeO.bind ?_ (fun _ => ?_))
      | exact spec_TripleIs.mono _ _ _ _
      | exact spec_TripleMake.mono _ _ _
      | exact spec_l6kBack.mono _ _ _
      | exact LeO.none _
      | refine LeO.ite ?_ ?_
      | refine LeO.bind ?_ (fun _ => ?_)
set_option maxHeartbeats 8000000 in
set_option maxRecDepth 100000 in
theorem spec_TripleChild.calls (k : Nat) (a0 : Int) (a1 : Int) (a2 : Int) (a3 : Int) (r1 : Int) (r2 : Int) (r3 : Int) (r4 : Bool) (w : World) (h : spec_TripleChild.f k a0 a1 a2 a3 = some (r1, r2, r3, r4)) :
    Calls Try.prog 31 #[.int .i64 a0, .int .i64 a1, .int .i64 a2, .int .i64 a3] w fun e w' => e = .returned (.tuple #[.int .i64 r1, .int .i64 r2, .int .i64 r3, .bool r4]) ∧ Below w.heap.size w w' := by
  have HB := Aside0.mk (Below.refl w.heap.size w)
  have H : ((spec_TripleIs.f k a0 a1 a2).bind fun t143 => (if t143 = true then ((spec_l6kBack.f k a0 a2).bind fun bt144 => (if a3 = 0 then ((spec_TripleMake.f k (wrap64 ((wrap64 (2 * bt144.1)) - bt144.2)) bt144.1).bind fun bt146 => (some (bt146.1, bt146.2.1, bt146.2.2.1, bt146.2.2.2))) else (if a3 = 1 then ((spec_TripleMake.f k (wrap64 ((wrap64 (2 * bt144.1)) + bt144.2)) bt144.1).bind fun bt150 => (some (bt150.1, bt150.2.1, bt150.2.2.1, bt150.2.2.2))) else (if a3 = 2 then ((spec_TripleMake.f k (wrap64 (bt144.1 + (wrap64 (2 * bt144.2)))) bt144.2).bind fun bt154 => (some (bt154.1, bt154.2.1, bt154.2.2.1, bt154.2.2.2))) else (some (0, 0, 0, false)))))) else (some (0, 0, 0, false)))) = some (r1, r2, r3, r4) := h
  clear h
  replace H := Option.bind_eq_some_iff.mp H
  obtain ⟨t143, A50, H⟩ := H
  replace H : (if t143 = true then ((spec_l6kBack.f k a0 a2).bind fun bt144 => (if a3 = 0 then ((spec_TripleMake.f k (wrap64 ((wrap64 (2 * bt144.1)) - bt144.2)) bt144.1).bind fun bt146 => (some (bt146.1, bt146.2.1, bt146.2.2.1, bt146.2.2.2))) else (if a3 = 1 then ((spec_TripleMake.f k (wrap64 ((wrap64 (2 * bt144.1)) + bt144.2)) bt144.1).bind fun bt150 => (some (bt150.1, bt150.2.1, bt150.2.2.1, bt150.2.2.2))) else (if a3 = 2 then ((spec_TripleMake.f k (wrap64 (bt144.1 + (wrap64 (2 * bt144.2)))) bt144.2).bind fun bt154 => (some (bt154.1, bt154.2.1, bt154.2.2.1, bt154.2.2.2))) else (some (0, 0, 0, false)))))) else (some (0, 0, 0, false))) = some (r1, r2, r3, r4) := H
  have A5 := Aside0.mk A50
  clear A50
  by_cases c6 : t143 = true
  · subst c6
    have H1 : ((spec_l6kBack.f k a0 a2).bind fun bt144 => (if a3 = 0 then ((spec_TripleMake.f k (wrap64 ((wrap64 (2 * bt144.1)) - bt144.2)) bt144.1).bind fun bt146 => (some (bt146.1, bt146.2.1, bt146.2.2.1, bt146.2.2.2))) else (if a3 = 1 then ((spec_TripleMake.f k (wrap64 ((wrap64 (2 * bt144.1)) + bt144.2)) bt144.1).bind fun bt150 => (some (bt150.1, bt150.2.1, bt150.2.2.1, bt150.2.2.2))) else (if a3 = 2 then ((spec_TripleMake.f k (wrap64 (bt144.1 + (wrap64 (2 * bt144.2)))) bt144.2).bind fun bt154 => (some (bt154.1, bt154.2.1, bt154.2.2.1, bt154.2.2.2))) else (some (0, 0, 0, false)))))) = some (r1, r2, r3, r4) := by rw [if_pos rfl] at H; exact H
    clear H
    have H := H1
    clear H1
    replace H := Option.bind_eq_some_iff.mp H
    obtain ⟨⟨t144, t145⟩, A70, H⟩ := H
    replace H : (if a3 = 0 then ((spec_TripleMake.f k (wrap64 ((wrap64 (2 * t144)) - t145)) t144).bind fun bt146 => (some (bt146.1, bt146.2.1, bt146.2.2.1, bt146.2.2.2))) else (if a3 = 1 then ((spec_TripleMake.f k (wrap64 ((wrap64 (2 * t144)) + t145)) t144).bind fun bt150 => (some (bt150.1, bt150.2.1, bt150.2.2.1, bt150.2.2.2))) else (if a3 = 2 then ((spec_TripleMake.f k (wrap64 (t144 + (wrap64 (2 * t145)))) t145).bind fun bt154 => (some (bt154.1, bt154.2.1, bt154.2.2.1, bt154.2.2.2))) else (some (0, 0, 0, false))))) = some (r1, r2, r3, r4) := H
    have A7 := Aside0.mk A70
    clear A70
    by_cases c8 : a3 = 0
    · rw [if_pos c8] at H
      have c8b0 : (a3 == 0) = true := beq_iff_eq.mpr c8
      have c8b1 : (a3 != 0) = false := bne_eq_false_iff_eq.mpr c8
      clear c8
      replace H := Option.bind_eq_some_iff.mp H
      obtain ⟨⟨t146, t147, t148, t149⟩, A90, H⟩ := H
      replace H : (some (t146, t147, t148, t149)) = some (r1, r2, r3, r4) := H
      have A9 := Aside0.mk A90
      clear A90
      simp only [Option.some.injEq, Prod.mk.injEq] at H
      obtain ⟨rfl, rfl, rfl, rfl⟩ := H
      go_enter Try.func31, Try.ntmps31
      go_wp2_with (first | ((with_reducible refine gate_callee (f := 37) rfl ?_); refine goesL_ (some 17) rfl rfl Try.func37 (by kernel_rfl) rfl #[.int .i64 a0, .int .i64 a1, .int .i64 a2] rfl (by (try simp only [List.map_toArray, List.map_cons, List.map_nil]); first | done | rfl | (simp only [List.length_drop, List.length_take]; rfl)) ?_; (with_reducible refine (spec_TripleIs.calls k a0 a1 a2 true _ A5.out).mono ?_); rintro e w10 ⟨rfl, hb⟩; refine ⟨_, rfl, ?_⟩; have n0_ := Aside0.mk (below_step (by repeat (first | (with_reducible first | exact HB.out | apply below_alloc | apply pw_below_drewN | apply below_drew1) | exact HB.out | exact Below.refl _ _)) hb); try clear HB; have HB := n0_; clear n0_; (try clear hb); (try clear hb2); (try clear hk); (try clear hi)) | ((with_reducible refine gate_callee (f := 47) rfl ?_); refine goesL_ (some 22) rfl rfl Try.func47 (by kernel_rfl) rfl #[.int .i64 a0, .int .i64 a2] rfl (by (try simp only [List.map_toArray, List.map_cons, List.map_nil]); first | done | rfl | (simp only [List.length_drop, List.length_take]; rfl)) ?_; (with_reducible refine (spec_l6kBack.calls k a0 a2 t144 t145 _ A7.out).mono ?_); rintro e w' ⟨rfl, ⟨nd, rfl⟩⟩; refine ⟨_, rfl, ?_⟩) | ((with_reducible refine gate_callee (f := 15) rfl ?_); refine goesL_ (some 33) rfl rfl Try.func15 (by kernel_rfl) rfl #[.int .i64 (wrap64 ((wrap64 (2 * t144)) - t145)), .int .i64 t144] rfl (by (try simp only [List.map_toArray, List.map_cons, List.map_nil]); first | done | rfl | (simp only [List.length_drop, List.length_take]; rfl)) ?_; (with_reducible refine (spec_TripleMake.calls k (wrap64 ((wrap64 (2 * t144)) - t145)) t144 t146 t147 t148 t149 _ A9.out).mono ?_); rintro e w11 ⟨rfl, hb⟩; refine ⟨_, rfl, ?_⟩; have n0_ := Aside0.mk (below_step (by repeat (first | (with_reducible first | exact HB.out | apply below_alloc | apply pw_below_drewN | apply below_drew1) | exact HB.out | exact Below.refl _ _)) hb); try clear HB; have HB := n0_; clear n0_; (try clear hb); (try clear hb2); (try clear hk); (try clear hi)))
      refine bodyPost_ret (results_list (rs := [.tmp 8, .tmp 9, .tmp 10, .tmp 11]) rfl (by simp) (.tmp (.tmp (.tmp (.tmp .nil))))) rfl ?_
      exact ⟨by first | rfl | (simp [errW_none, errW_some] <;> rfl) | (simp [*, errW_none, errW_some] <;> rfl), by repeat (first | (with_reducible first | exact HB.out | apply below_alloc | apply pw_below_drewN | apply below_drew1) | exact HB.out | exact Below.refl _ _)⟩
    rw [if_neg c8] at H
    have c8b0 : (a3 == 0) = false := beq_eq_false_iff_ne.mpr c8
    have c8b1 : (a3 != 0) = true := bne_iff_ne.mpr c8
    by_cases c12 : a3 = 1
    · rw [if_pos c12] at H
      have c12b0 : (a3 == 1) = true := beq_iff_eq.mpr c12
      have c12b1 : (a3 != 1) = false := bne_eq_false_iff_eq.mpr c12
      clear c12
      replace H := Option.bind_eq_some_iff.mp H
      obtain ⟨⟨t150, t151, t152, t153⟩, A130, H⟩ := H
      replace H : (some (t150, t151, t152, t153)) = some (r1, r2, r3, r4) := H
      have A13 := Aside0.mk A130
      clear A130
      simp only [Option.some.injEq, Prod.mk.injEq] at H
      obtain ⟨rfl, rfl, rfl, rfl⟩ := H
      go_enter Try.func31, Try.ntmps31
      go_wp2_with (first | ((with_reducible refine gate_callee (f := 37) rfl ?_); refine goesL_ (some 17) rfl rfl Try.func37 (by kernel_rfl) rfl #[.int .i64 a0, .int .i64 a1, .int .i64 a2] rfl (by (try simp only [List.map_toArray, List.map_cons, List.map_nil]); first | done | rfl | (simp only [List.length_drop, List.length_take]; rfl)) ?_; (with_reducible refine (spec_TripleIs.calls k a0 a1 a2 true _ A5.out).mono ?_); rintro e w14 ⟨rfl, hb⟩; refine ⟨_, rfl, ?_⟩; have n0_ := Aside0.mk (below_step (by repeat (first | (with_reducible first | exact HB.out | apply below_alloc | apply pw_below_drewN | apply below_drew1) | exact HB.out | exact Below.refl _ _)) hb); try clear HB; have HB := n0_; clear n0_; (try clear hb); (try clear hb2); (try clear hk); (try clear hi)) | ((with_reducible refine gate_callee (f := 47) rfl ?_); refine goesL_ (some 22) rfl rfl Try.func47 (by kernel_rfl) rfl #[.int .i64 a0, .int .i64 a2] rfl (by (try simp only [List.map_toArray, List.map_cons, List.map_nil]); first | done | rfl | (simp only [List.length_drop, List.length_take]; rfl)) ?_; (with_reducible refine (spec_l6kBack.calls k a0 a2 t144 t145 _ A7.out).mono ?_); rintro e w' ⟨rfl, ⟨nd, rfl⟩⟩; refine ⟨_, rfl, ?_⟩) | ((with_reducible refine gate_callee (f := 15) rfl ?_); refine goesL_ (some 45) rfl rfl Try.func15 (by kernel_rfl) rfl #[.int .i64 (wrap64 ((wrap64 (2 * t144)) + t145)), .int .i64 t144] rfl (by (try simp only [List.map_toArray, List.map_cons, List.map_nil]); first | done | rfl | (simp only [List.length_drop, List.length_take]; rfl)) ?_; (with_reducible refine (spec_TripleMake.calls k (wrap64 ((wrap64 (2 * t144)) + t145)) t144 t150 t151 t152 t153 _ A13.out).mono ?_); rintro e w15 ⟨rfl, hb⟩; refine ⟨_, rfl, ?_⟩; have n0_ := Aside0.mk (below_step (by repeat (first | (with_reducible first | exact HB.out | apply below_alloc | apply pw_below_drewN | apply below_drew1) | exact HB.out | exact Below.refl _ _)) hb); try clear HB; have HB := n0_; clear n0_; (try clear hb); (try clear hb2); (try clear hk); (try clear hi)))
      refine bodyPost_ret (results_list (rs := [.tmp 8, .tmp 9, .tmp 10, .tmp 11]) rfl (by simp) (.tmp (.tmp (.tmp (.tmp .nil))))) rfl ?_
      exact ⟨by first | rfl | (simp [errW_none, errW_some] <;> rfl) | (simp [*, errW_none, errW_some] <;> rfl), by repeat (first | (with_reducible first | exact HB.out | apply below_alloc | apply pw_below_drewN | apply below_drew1) | exact HB.out | exact Below.refl _ _)⟩
    rw [if_neg c12] at H
    have c12b0 : (a3 == 1) = false := beq_eq_false_iff_ne.mpr c12
    have c12b1 : (a3 != 1) = true := bne_iff_ne.mpr c12
    by_cases c16 : a3 = 2
    · rw [if_pos c16] at H
      have c16b0 : (a3 == 2) = true := beq_iff_eq.mpr c16
      have c16b1 : (a3 != 2) = false := bne_eq_false_iff_eq.mpr c16
      clear c16
      replace H := Option.bind_eq_some_iff.mp H
      obtain ⟨⟨t154, t155, t156, t157⟩, A170, H⟩ := H
      replace H : (some (t154, t155, t156, t157)) = some (r1, r2, r3, r4) := H
      have A17 := Aside0.mk A170
      clear A170
      simp only [Option.some.injEq, Prod.mk.injEq] at H
      obtain ⟨rfl, rfl, rfl, rfl⟩ := H
      go_enter Try.func31, Try.ntmps31
      go_wp2_with (first | ((with_reducible refine gate_callee (f := 37) rfl ?_); refine goesL_ (some 17) rfl rfl Try.func37 (by kernel_rfl) rfl #[.int .i64 a0, .int .i64 a1, .int .i64 a2] rfl (by (try simp only [List.map_toArray, List.map_cons, List.map_nil]); first | done | rfl | (simp only [List.length_drop, List.length_take]; rfl)) ?_; (with_reducible refine (spec_TripleIs.calls k a0 a1 a2 true _ A5.out).mono ?_); rintro e w18 ⟨rfl, hb⟩; refine ⟨_, rfl, ?_⟩; have n0_ := Aside0.mk (below_step (by repeat (first | (with_reducible first | exact HB.out | apply below_alloc | apply pw_below_drewN | apply below_drew1) | exact HB.out | exact Below.refl _ _)) hb); try clear HB; have HB := n0_; clear n0_; (try clear hb); (try clear hb2); (try clear hk); (try clear hi)) | ((with_reducible refine gate_callee (f := 47) rfl ?_); refine goesL_ (some 22) rfl rfl Try.func47 (by kernel_rfl) rfl #[.int .i64 a0, .int .i64 a2] rfl (by (try simp only [List.map_toArray, List.map_cons, List.map_nil]); first | done | rfl | (simp only [List.length_drop, List.length_take]; rfl)) ?_; (with_reducible refine (spec_l6kBack.calls k a0 a2 t144 t145 _ A7.out).mono ?_); rintro e w' ⟨rfl, ⟨nd, rfl⟩⟩; refine ⟨_, rfl, ?_⟩) | ((with_reducible refine gate_callee (f := 15) rfl ?_); refine goesL_ (some 57) rfl rfl Try.func15 (by kernel_rfl) rfl #[.int .i64 (wrap64 (t144 + (wrap64 (2 * t145)))), .int .i64 t145] rfl (by (try simp only [List.map_toArray, List.map_cons, List.map_nil]); first | done | rfl | (simp only [List.length_drop, List.length_take]; rfl)) ?_; (with_reducible refine (spec_TripleMake.calls k (wrap64 (t144 + (wrap64 (2 * t145)))) t145 t154 t155 t156 t157 _ A17.out).mono ?_); rintro e w19 ⟨rfl, hb⟩; refine ⟨_, rfl, ?_⟩; have n0_ := Aside0.mk (below_step (by repeat (first | (with_reducible first | exact HB.out | apply below_alloc | apply pw_below_drewN | apply below_drew1) | exact HB.out | exact Below.refl _ _)) hb); try clear HB; have HB := n0_; clear n0_; (try clear hb); (try clear hb2); (try clear hk); (try clear hi)))
      refine bodyPost_ret (results_list (rs := [.tmp 8, .tmp 9, .tmp 10, .tmp 11]) rfl (by simp) (.tmp (.tmp (.tmp (.tmp .nil))))) rfl ?_
      exact ⟨by first | rfl | (simp [errW_none, errW_some] <;> rfl) | (simp [*, errW_none, errW_some] <;> rfl), by repeat (first | (with_reducible first | exact HB.out | apply below_alloc | apply pw_below_drewN | apply below_drew1) | exact HB.out | exact Below.refl _ _)⟩
    rw [if_neg c16] at H
    have c16b0 : (a3 == 2) = false := beq_eq_false_iff_ne.mpr c16
    have c16b1 : (a3 != 2) = true := bne_iff_ne.mpr c16
    simp only [Option.some.injEq, Prod.mk.injEq] at H
    obtain ⟨rfl, rfl, rfl, rfl⟩ := H
    go_enter Try.func31, Try.ntmps31
    go_wp2_with (first | ((with_reducible refine gate_callee (f := 37) rfl ?_); refine goesL_ (some 17) rfl rfl Try.func37 (by kernel_rfl) rfl #[.int .i64 a0, .int .i64 a1, .int .i64 a2] rfl (by (try simp only [List.map_toArray, List.map_cons, List.map_nil]); first | done | rfl | (simp only [List.length_drop, List.length_take]; rfl)) ?_; (with_reducible refine (spec_TripleIs.calls k a0 a1 a2 true _ A5.out).mono ?_); rintro e w20 ⟨rfl, hb⟩; refine ⟨_, rfl, ?_⟩; have n0_ := Aside0.mk (below_step (by repeat (first | (with_reducible first | exact HB.out | apply below_alloc | apply pw_below_drewN | apply below_drew1) | exact HB.out | exact Below.refl _ _)) hb); try clear HB; have HB := n0_; clear n0_; (try clear hb); (try clear hb2); (try clear hk); (try clear hi)) | ((with_reducible refine gate_callee (f := 47) rfl ?_); refine goesL_ (some 22) rfl rfl Try.func47 (by kernel_rfl) rfl #[.int .i64 a0, .int .i64 a2] rfl (by (try simp only [List.map_toArray, List.map_cons, List.map_nil]); first | done | rfl | (simp only [List.length_drop, List.length_take]; rfl)) ?_; (with_reducible refine (spec_l6kBack.calls k a0 a2 t144 t145 _ A7.out).mono ?_); rintro e w' ⟨rfl, ⟨nd, rfl⟩⟩; refine ⟨_, rfl, ?_⟩))
    refine bodyPost_ret (results_list (rs := [.tmp 8, .tmp 9, .tmp 10, .tmp 11]) rfl (by simp) (.tmp (.tmp (.tmp (.tmp .nil))))) rfl ?_
    exact ⟨by first | rfl | (simp [errW_none, errW_some] <;> rfl) | (simp [*, errW_none, errW_some] <;> rfl), by repeat (first | (with_reducible first | exact HB.out | apply below_alloc | apply pw_below_drewN | apply below_drew1) | exact HB.out | exact Below.refl _ _)⟩
  replace c6 := Bool.eq_false_iff.mpr c6
  subst c6
  have H1 : (some (0, 0, 0, false)) = some (r1, r2, r3, r4) := by rw [if_neg (show ¬ (false = true) by decide)] at H; exact H
  clear H
  have H := H1
  clear H1
  simp only [Option.some.injEq, Prod.mk.injEq] at H
  obtain ⟨rfl, rfl, rfl, rfl⟩ := H
  go_enter Try.func31, Try.ntmps31
  go_wp2_with (first | ((with_reducible refine gate_callee (f := 37) rfl ?_); refine goesL_ (some 17) rfl rfl Try.func37 (by kernel_rfl) rfl #[.int .i64 a0, .int .i64 a1, .int .i64 a2] rfl (by (try simp only [List.map_toArray, List.map_cons, List.map_nil]); first | done | rfl | (simp only [List.length_drop, List.length_take]; rfl)) ?_; (with_reducible refine (spec_TripleIs.calls k a0 a1 a2 false _ A5.out).mono ?_); rintro e w21 ⟨rfl, hb⟩; refine ⟨_, rfl, ?_⟩; have n0_ := Aside0.mk (below_step (by repeat (first | (with_reducible first | exact HB.out | apply below_alloc | apply pw_below_drewN | apply below_drew1) | exact HB.out | exact Below.refl _ _)) hb); try clear HB; have HB := n0_; clear n0_; (try clear hb); (try clear hb2); (try clear hk); (try clear hi)))
  refine bodyPost_ret (results_list (rs := [.tmp 8, .tmp 9, .tmp 10, .tmp 11]) rfl (by simp) (.tmp (.tmp (.tmp (.tmp .nil))))) rfl ?_
  exact ⟨by first | rfl | (simp [errW_none, errW_some] <;> rfl) | (simp [*, errW_none, errW_some] <;> rfl), by repeat (first | (with_reducible first | exact HB.out | apply below_alloc | apply pw_below_drewN | apply below_drew1) | exact HB.out | exact Below.refl _ _)⟩

/-! ### impl_TripleParent: function 33 -/
/-- The three candidates in order; the first that TripleMake takes. -/
def impl_TripleParent.f (k : Nat) (a0 a1 a2 : Int) : Option (Int × Int × Int × Int × Bool) := (impl_TripleBack.f k a0 a1 a2).bind fun b =>
  if b.2.2 = true then
    ((impl_TripleMake.f k b.2.1 (wrap64 (wrap64 (2 * b.2.1) - b.1))).bind fun x => if x.2.2.2 = true then some (x.1, x.2.1, x.2.2.1, 0, true) else
      ((impl_TripleMake.f k b.2.1 (wrap64 (b.1 - wrap64 (2 * b.2.1)))).bind fun y => if y.2.2.2 = true then some (y.1, y.2.1, y.2.2.1, 1, true) else
        ((impl_TripleMake.f k (wrap64 (b.1 - wrap64 (2 * b.2.1))) b.2.1).bind fun z => if z.2.2.2 = true then some (z.1, z.2.1, z.2.2.1, 2, true) else some (0, 0, 0, 0, false))))
  else some (0, 0, 0, 0, false)
theorem impl_TripleParent.mono : ∀ a0 a1 a2 k, LeO (impl_TripleParent.f k a0 a1 a2) (impl_TripleParent.f (k + 1) a0 a1 a2) := by
  intro a0 a1 a2 k
  unfold impl_TripleParent.f
  refine LeO.bind (impl_TripleBack.mono _ _ _ _) (fun b => LeO.ite ?_ (LeO.refl _))
  refine LeO.bind (impl_TripleMake.mono _ _ _) (fun x => LeO.ite (LeO.refl _) ?_)
  refine LeO.bind (impl_TripleMake.mono _ _ _) (fun y => LeO.ite (LeO.refl _) ?_)
  exact LeO.bind (impl_TripleMake.mono _ _ _) (fun z => LeO.refl _)
theorem tpcell {W w1 : World} (hb : Below W.heap.size W w1) : (∀ b o, b < W.heap.size → w1.cell? ⟨b, o, none⟩ = W.cell? ⟨b, o, none⟩) ∧ (∀ b o, b < W.heap.size → w1.frozen? ⟨b, o, none⟩ = W.frozen? ⟨b, o, none⟩) :=
  ⟨fun b o h => hb.cell (p := ⟨b, o, none⟩) h, fun b o h => hb.frozen (p := ⟨b, o, none⟩) h⟩
set_option maxHeartbeats 4000000 in
set_option maxRecDepth 100000 in
theorem impl_TripleParent.yes (k : Nat) (a0 a1 a2 m n : Int) (t1 t2 t3 u1 u2 u3 v1 v2 v3 : Int) (x y z : Bool) (w : World) (hb : impl_TripleBack.f k a0 a1 a2 = some (m, n, true))
    (h1 : impl_TripleMake.f k n (wrap64 (wrap64 (2 * n) - m)) = some (t1, t2, t3, x))
    (h2 : x = false → impl_TripleMake.f k n (wrap64 (m - wrap64 (2 * n))) = some (u1, u2, u3, y))
    (h3 : x = false → y = false → impl_TripleMake.f k (wrap64 (m - wrap64 (2 * n))) n = some (v1, v2, v3, z)) :
    Calls Try.prog 33 #[.int .i64 a0, .int .i64 a1, .int .i64 a2] w fun e w' =>
      e = .returned (if x = true then .tuple #[.int .i64 t1, .int .i64 t2, .int .i64 t3, .int .i64 0, .bool true] else if y = true then .tuple #[.int .i64 u1, .int .i64 u2, .int .i64 u3, .int .i64 1, .bool true]
        else if z = true then .tuple #[.int .i64 v1, .int .i64 v2, .int .i64 v3, .int .i64 2, .bool true] else .tuple #[.int .i64 0, .int .i64 0, .int .i64 0, .int .i64 0, .bool false]) ∧ Below w.heap.size w w' := by
  have B := Aside0.mk hb
  have M1 := Aside0.mk h1
  have M2 := Aside0.mk h2
  have M3 := Aside0.mk h3
  clear hb h1 h2 h3
  cases x with
  | true =>
    go_enter Try.func33, Try.ntmps33
    go_wp2_with (first | (go_at_call 26; (with_reducible refine (impl_TripleBack.calls k a0 a1 a2 m n true _ B.out).mono ?_); rintro e w1 ⟨rfl, hb0⟩))
    have HB := Aside0.mk hb0
    clear hb0
    refine wp_loop_rounds 4 ?_
    rw [rounds_succ]
    go_wp2_with (first | (go_at_call 16; (with_reducible refine (impl_TripleMake.calls k _ _ t1 t2 t3 true _ M1.out).mono ?_); rintro e w2 ⟨rfl, hbx⟩; obtain ⟨hc_w2, hf_w2⟩ := tpcell hbx; have hz_w2 : w1.heap.size < w2.heap.size := (by have := hbx.size; simp at this; omega); have hy_w2 := Nat.le_of_lt hz_w2; have hx_w2 := Nat.lt_succ_of_lt hz_w2; have HB1 := Aside0.mk (below_step (by repeat (first | (with_reducible first | exact HB.out | apply below_alloc | apply pw_below_drewN | apply below_drew1 | refine Below.setCell ?_ (by have := HB.out.size; simp; omega) _) | exact HB.out)) hbx); clear hbx))
    refine bodyPost_ret (results_list (rs := [.tmp 6, .tmp 7, .tmp 8, .tmp 9, .tmp 10]) rfl (by simp) (.tmp (.tmp (.tmp (.tmp (.tmp .nil)))))) rfl ?_
    exact ⟨rfl, HB1.out⟩
  | false =>
    have N2 := Aside0.mk (M2.out rfl)
    clear M2
    cases y with
    | true =>
      go_enter Try.func33, Try.ntmps33
      go_wp2_with (first | (go_at_call 26; (with_reducible refine (impl_TripleBack.calls k a0 a1 a2 m n true _ B.out).mono ?_); rintro e w1 ⟨rfl, hb0⟩))
      have HB := Aside0.mk hb0
      clear hb0
      refine wp_loop_rounds 4 ?_
      rw [rounds_succ]
      go_wp2_with (first | (go_at_call 16; (with_reducible refine (impl_TripleMake.calls k _ _ t1 t2 t3 false _ M1.out).mono ?_); rintro e w2 ⟨rfl, hbx⟩; obtain ⟨hc_w2, hf_w2⟩ := tpcell hbx; have hz_w2 : w1.heap.size < w2.heap.size := (by have := hbx.size; simp at this; omega); have hy_w2 := Nat.le_of_lt hz_w2; have hx_w2 := Nat.lt_succ_of_lt hz_w2; have HB1 := Aside0.mk (below_step (by repeat (first | (with_reducible first | exact HB.out | apply below_alloc | apply pw_below_drewN | apply below_drew1 | refine Below.setCell ?_ (by have := HB.out.size; simp; omega) _) | exact HB.out)) hbx); clear hbx))
      rw [rounds_succ]
      go_wp2_with (first | (go_at_call 16; (with_reducible refine (impl_TripleMake.calls k _ _ u1 u2 u3 true _ N2.out).mono ?_); rintro e w3 ⟨rfl, hbx⟩; obtain ⟨hc_w3, hf_w3⟩ := tpcell hbx; have hz_w3 : w1.heap.size < w3.heap.size := (by have := hbx.size; simp at this; omega); have hy_w3 := Nat.le_of_lt hz_w3; have hx_w3 := Nat.lt_succ_of_lt hz_w3; have HB2 := Aside0.mk (below_step (by repeat (first | (with_reducible first | exact HB1.out | apply below_alloc | apply pw_below_drewN | apply below_drew1 | refine Below.setCell ?_ (by have := HB.out.size; simp; omega) _) | exact HB1.out)) hbx); clear hbx))
      refine bodyPost_ret (results_list (rs := [.tmp 6, .tmp 7, .tmp 8, .tmp 9, .tmp 10]) rfl (by simp) (.tmp (.tmp (.tmp (.tmp (.tmp .nil)))))) rfl ?_
      exact ⟨rfl, HB2.out⟩
    | false =>
      have N3 := Aside0.mk (M3.out rfl rfl)
      clear M3
      cases z with
      | true =>
        go_enter Try.func33, Try.ntmps33
        go_wp2_with (first | (go_at_call 26; (with_reducible refine (impl_TripleBack.calls k a0 a1 a2 m n true _ B.out).mono ?_); rintro e w1 ⟨rfl, hb0⟩))
        have HB := Aside0.mk hb0
        clear hb0
        refine wp_loop_rounds 4 ?_
        rw [rounds_succ]
        go_wp2_with (first | (go_at_call 16; (with_reducible refine (impl_TripleMake.calls k _ _ t1 t2 t3 false _ M1.out).mono ?_); rintro e w2 ⟨rfl, hbx⟩; obtain ⟨hc_w2, hf_w2⟩ := tpcell hbx; have hz_w2 : w1.heap.size < w2.heap.size := (by have := hbx.size; simp at this; omega); have hy_w2 := Nat.le_of_lt hz_w2; have hx_w2 := Nat.lt_succ_of_lt hz_w2; have HB1 := Aside0.mk (below_step (by repeat (first | (with_reducible first | exact HB.out | apply below_alloc | apply pw_below_drewN | apply below_drew1 | refine Below.setCell ?_ (by have := HB.out.size; simp; omega) _) | exact HB.out)) hbx); clear hbx))
        rw [rounds_succ]
        go_wp2_with (first | (go_at_call 16; (with_reducible refine (impl_TripleMake.calls k _ _ u1 u2 u3 false _ N2.out).mono ?_); rintro e w3 ⟨rfl, hbx⟩; obtain ⟨hc_w3, hf_w3⟩ := tpcell hbx; have hz_w3 : w1.heap.size < w3.heap.size := (by have := hbx.size; simp at this; omega); have hy_w3 := Nat.le_of_lt hz_w3; have hx_w3 := Nat.lt_succ_of_lt hz_w3; have HB2 := Aside0.mk (below_step (by repeat (first | (with_reducible first | exact HB1.out | apply below_alloc | apply pw_below_drewN | apply below_drew1 | refine Below.setCell ?_ (by have := HB.out.size; simp; omega) _) | exact HB1.out)) hbx); clear hbx))
        rw [rounds_succ]
        go_wp2_with (first | (go_at_call 16; (with_reducible refine (impl_TripleMake.calls k _ _ v1 v2 v3 true _ N3.out).mono ?_); rintro e w4 ⟨rfl, hbx⟩; obtain ⟨hc_w4, hf_w4⟩ := tpcell hbx; have HB3 := Aside0.mk (below_step (by repeat (first | (with_reducible first | exact HB2.out | apply below_alloc | apply pw_below_drewN | apply below_drew1 | refine Below.setCell ?_ (by have := HB.out.size; simp; omega) _) | exact HB2.out)) hbx); clear hbx))
        refine bodyPost_ret (results_list (rs := [.tmp 6, .tmp 7, .tmp 8, .tmp 9, .tmp 10]) rfl (by simp) (.tmp (.tmp (.tmp (.tmp (.tmp .nil)))))) rfl ?_
        exact ⟨rfl, HB3.out⟩
      | false =>
        go_enter Try.func33, Try.ntmps33
        go_wp2_with (first | (go_at_call 26; (with_reducible refine (impl_TripleBack.calls k a0 a1 a2 m n true _ B.out).mono ?_); rintro e w1 ⟨rfl, hb0⟩))
        have HB := Aside0.mk hb0
        clear hb0
        refine wp_loop_rounds 4 ?_
        rw [rounds_succ]
        go_wp2_with (first | (go_at_call 16; (with_reducible refine (impl_TripleMake.calls k _ _ t1 t2 t3 false _ M1.out).mono ?_); rintro e w2 ⟨rfl, hbx⟩; obtain ⟨hc_w2, hf_w2⟩ := tpcell hbx; have hz_w2 : w1.heap.size < w2.heap.size := (by have := hbx.size; simp at this; omega); have hy_w2 := Nat.le_of_lt hz_w2; have hx_w2 := Nat.lt_succ_of_lt hz_w2; have HB1 := Aside0.mk (below_step (by repeat (first | (with_reducible first | exact HB.out | apply below_alloc | apply pw_below_drewN | apply below_drew1 | refine Below.setCell ?_ (by have := HB.out.size; simp; omega) _) | exact HB.out)) hbx); clear hbx))
        rw [rounds_succ]
        go_wp2_with (first | (go_at_call 16; (with_reducible refine (impl_TripleMake.calls k _ _ u1 u2 u3 false _ N2.out).mono ?_); rintro e w3 ⟨rfl, hbx⟩; obtain ⟨hc_w3, hf_w3⟩ := tpcell hbx; have hz_w3 : w1.heap.size < w3.heap.size := (by have := hbx.size; simp at this; omega); have hy_w3 := Nat.le_of_lt hz_w3; have hx_w3 := Nat.lt_succ_of_lt hz_w3; have HB2 := Aside0.mk (below_step (by repeat (first | (with_reducible first | exact HB1.out | apply below_alloc | apply pw_below_drewN | apply below_drew1 | refine Below.setCell ?_ (by have := HB.out.size; simp; omega) _) | exact HB1.out)) hbx); clear hbx))
        rw [rounds_succ]
        go_wp2_with (first | (go_at_call 16; (with_reducible refine (impl_TripleMake.calls k _ _ v1 v2 v3 false _ N3.out).mono ?_); rintro e w4 ⟨rfl, hbx⟩; obtain ⟨hc_w4, hf_w4⟩ := tpcell hbx; have HB3 := Aside0.mk (below_step (by repeat (first | (with_reducible first | exact HB2.out | apply below_alloc | apply pw_below_drewN | apply below_drew1 | refine Below.setCell ?_ (by have := HB.out.size; simp; omega) _) | exact HB2.out)) hbx); clear hbx))
        rw [rounds_succ]
        go_wp2
        refine bodyPost_ret (results_list (rs := [.tmp 6, .tmp 7, .tmp 8, .tmp 9, .tmp 10]) rfl (by simp) (.tmp (.tmp (.tmp (.tmp (.tmp .nil)))))) rfl ?_
        exact ⟨rfl, HB3.out⟩
set_option maxHeartbeats 4000000 in
set_option maxRecDepth 100000 in
theorem impl_TripleParent.no (k : Nat) (a0 a1 a2 m n : Int) (w : World) (hb : impl_TripleBack.f k a0 a1 a2 = some (m, n, false)) :
    Calls Try.prog 33 #[.int .i64 a0, .int .i64 a1, .int .i64 a2] w fun e w' => e = .returned (.tuple #[.int .i64 0, .int .i64 0, .int .i64 0, .int .i64 0, .bool false]) ∧ Below w.heap.size w w' := by
  have B := Aside0.mk hb
  clear hb
  go_enter Try.func33, Try.ntmps33
  go_wp2_with (first | (go_at_call 26; (with_reducible refine (impl_TripleBack.calls k a0 a1 a2 m n false _ B.out).mono ?_); rintro e w1 ⟨rfl, hb0⟩))
  refine bodyPost_ret (results_list (rs := [.tmp 6, .tmp 7, .tmp 8, .tmp 9, .tmp 10]) rfl (by simp) (.tmp (.tmp (.tmp (.tmp (.tmp .nil)))))) rfl ?_
  exact ⟨rfl, hb0⟩
theorem impl_TripleParent.calls (k : Nat) (a0 : Int) (a1 : Int) (a2 : Int) (r1 : Int) (r2 : Int) (r3 : Int) (r4 : Int) (r5 : Bool) (w : World) (h : impl_TripleParent.f k a0 a1 a2 = some (r1, r2, r3, r4, r5)) :
    Calls Try.prog 33 #[.int .i64 a0, .int .i64 a1, .int .i64 a2] w fun e w' => e = .returned (.tuple #[.int .i64 r1, .int .i64 r2, .int .i64 r3, .int .i64 r4, .bool r5]) ∧ Below w.heap.size w w' := by
  unfold impl_TripleParent.f at h
  obtain ⟨⟨m, n, b⟩, hb, h⟩ := Option.bind_eq_some_iff.1 h
  cases b with
  | false =>
    simp only [Bool.false_eq_true, if_false, Option.some.injEq, Prod.mk.injEq] at h
    obtain ⟨rfl, rfl, rfl, rfl, rfl⟩ := h
    exact impl_TripleParent.no k a0 a1 a2 m n w hb
  | true =>
    simp only [if_true] at h
    obtain ⟨⟨t1, t2, t3, x⟩, h1, h⟩ := Option.bind_eq_some_iff.1 h
    cases x with
    | true =>
      simp only [if_true, Option.some.injEq, Prod.mk.injEq] at h
      obtain ⟨rfl, rfl, rfl, rfl, rfl⟩ := h
      exact impl_TripleParent.yes k a0 a1 a2 m n t1 t2 t3 0 0 0 0 0 0 true true true w hb h1 (fun h => by cases h) (fun h => by cases h)
    | false =>
      simp only [Bool.false_eq_true, if_false] at h
      obtain ⟨⟨u1, u2, u3, y⟩, h2, h⟩ := Option.bind_eq_some_iff.1 h
      cases y with
      | true =>
        simp only [if_true, Option.some.injEq, Prod.mk.injEq] at h
        obtain ⟨rfl, rfl, rfl, rfl, rfl⟩ := h
        exact impl_TripleParent.yes k a0 a1 a2 m n t1 t2 t3 u1 u2 u3 0 0 0 false true true w hb h1 (fun _ => h2) (fun _ h => by cases h)
      | false =>
        simp only [Bool.false_eq_true, if_false] at h
        obtain ⟨⟨v1, v2, v3, z⟩, h3, h⟩ := Option.bind_eq_some_iff.1 h
        have key := impl_TripleParent.yes k a0 a1 a2 m n t1 t2 t3 u1 u2 u3 v1 v2 v3 false false z w hb h1 (fun _ => h2) (fun _ _ => h3)
        cases z with
        | true =>
          simp only [if_true, Option.some.injEq, Prod.mk.injEq] at h
          obtain ⟨rfl, rfl, rfl, rfl, rfl⟩ := h
          exact key
        | false =>
          simp only [Bool.false_eq_true, if_false, Option.some.injEq, Prod.mk.injEq] at h
          obtain ⟨rfl, rfl, rfl, rfl, rfl⟩ := h
          exact key

/-! ### impl_TripleDepth: function 35 -/
def impl_TripleDepth.l0 : Nat → Int → Int → Int → Int → Option (Int)
  | 0, _, _, _, _ => none
  | k + 1, x0, x1, x2, x7 => (impl_TripleParent.f k x0 x1 x2).bind fun bt159 => (if bt159.2.2.2.2 = true then (impl_TripleDepth.l0 k bt159.1 bt159.2.1 bt159.2.2.1 (wrap64 (x7 + 1))) else (some x7))
def impl_TripleDepth.f (k : Nat) (a0 : Int) (a1 : Int) (a2 : Int) : Option (Int) := (impl_TripleIs.f k a0 a1 a2).bind fun t158 => (if t158 = true then (impl_TripleDepth.l0 k a0 a1 a2 0) else (some (-1)))
theorem impl_TripleDepth.mono_l : ∀ k, (∀ y0 y1 y2 y3, LeO (impl_TripleDepth.l0 k y0 y1 y2 y3) (impl_TripleDepth.l0 (k + 1) y0 y1 y2 y3))
  | 0 => fun _ _ _ _ r h => by simp [impl_TripleDepth.l0] at h
  | k + 1 => by
    have ih0 := impl_TripleDepth.mono_l k
    · intro y0 y1 y2 y3
      unfold impl_TripleDepth.l0
      repeat' first
      | (with_reducible exact ih0 _ _ _ _)
      | (with_reducible exact impl_TripleIs.mono _ _ _ _)
      | (with_reducible exact impl_TripleParent.mono _ _ _ _)
      | (with_reducible exact LeO.refl _)
      | (with_reducible exact LeO.none _)
      | (with_reducible refine LeO.ite ?_ ?_)
      | (with_reducible refine LeO.bind ?_ (fun _ => ?_))
      | exact ih0 _ _ _ _
      | exact impl_TripleIs.mono _ _ _ _
      | exact impl_TripleParent.mono _ _ _ _
      | exact LeO.none _
      | refine LeO.ite ?_ ?_
      | refine LeO.bind ?_ (fun _ => ?_)
theorem impl_TripleDepth.mono : ∀ a0 a1 a2 k, LeO (impl_TripleDepth.f k a0 a1 a2) (impl_TripleDepth.f (k + 1) a0 a1 a2) := by
  intro a0 a1 a2 k
  have ih0 := impl_TripleDepth.mono_l k
  unfold impl_TripleDepth.f
  repeat' first
      | (with_reducible exact ih0 _ _ _ _)
      | (with_reducible exact impl_TripleIs.mono _ _ _ _)
      | (with_reducible exact impl_TripleParent.mono _ _ _ _)
      | (with_reducible exact LeO.refl _)
      | (with_reducible exact LeO.none _)
      | (with_reducible refine LeO.ite ?_ ?_)
      | (with_reducible refine LeO.bind ?_ (fun _ => ?_))
      | exact ih0 _ _ _ _
      | exact impl_TripleIs.mono _ _ _ _
      | exact impl_TripleParent.mono _ _ _ _
      | exact LeO.none _
      | refine LeO.ite ?_ ?_
      | refine LeO.bind ?_ (fun _ => ?_)
set_option maxHeartbeats 8000000 in
set_option maxRecDepth 100000 in
theorem impl_TripleDepth.calls (k : Nat) (a0 : Int) (a1 : Int) (a2 : Int) (r : Int) (w : World) (h : impl_TripleDepth.f k a0 a1 a2 = some r) :
    Calls Try.prog 35 #[.int .i64 a0, .int .i64 a1, .int .i64 a2] w fun e w' => e = .returned (.int .i64 r) ∧ Below w.heap.size w w' := by
  have HB := Aside0.mk (Below.refl w.heap.size w)
  have H : ((impl_TripleIs.f k a0 a1 a2).bind fun t158 => (if t158 = true then (impl_TripleDepth.l0 k a0 a1 a2 0) else (some (-1)))) = some r := h
  clear h
  replace H := Option.bind_eq_some_iff.mp H
  obtain ⟨t158, A40, H⟩ := H
  replace H : (if t158 = true then (impl_TripleDepth.l0 k a0 a1 a2 0) else (some (-1))) = some r := H
  have A4 := Aside0.mk A40
  clear A40
  by_cases c5 : t158 = true
  · subst c5
    have H1 : (impl_TripleDepth.l0 k a0 a1 a2 0) = some r := by rw [if_pos rfl] at H; exact H
    clear H
    have H := H1
    clear H1
    have H' := Aside0.mk H
    clear H
    go_enter Try.func35, Try.ntmps35
    go_wp2_with (first | ((with_reducible refine gate_callee (f := 29) rfl ?_); refine goesL_ (some 16) rfl rfl Try.func29 (by kernel_rfl) rfl #[.int .i64 a0, .int .i64 a1, .int .i64 a2] rfl (by (try simp only [List.map_toArray, List.map_cons, List.map_nil]); first | done | rfl | (simp only [List.length_drop, List.length_take]; rfl)) ?_; (with_reducible refine (impl_TripleIs.calls k a0 a1 a2 true _ A4.out).mono ?_); rintro e w6 ⟨rfl, hb⟩; refine ⟨_, rfl, ?_⟩; have n0_ := Aside0.mk (below_step (by repeat (first | (with_reducible first | exact HB.out | apply below_alloc | apply pw_below_drewN | apply below_drew1) | exact HB.out | exact Below.refl _ _)) hb); try clear HB; have HB := n0_; clear n0_; (try clear hb); (try clear hb2); (try clear hk); (try clear hi)))
    go_loopg [0, 1, 2, 7] k (fun kq v0 v1 v2 v7 w' => ∃ (x0_1 : Int) (x1_1 : Int) (x2_1 : Int) (x7_1 : Int), v0 = .int .i64 x0_1 ∧ v1 = .int .i64 x1_1 ∧ v2 = .int .i64 x2_1 ∧ v7 = .int .i64 x7_1 ∧ Aside0 (impl_TripleDepth.l0 kq x0_1 x1_1 x2_1 x7_1 = some r) ∧ Aside0 (kq ≤ k) ∧ Aside0 (Below w.heap.size w w'))
    case atStart => exact ⟨(a0), (a1), (a2), (0), (by first | rfl | (simp; done) | (simp [*]; done)), (by first | rfl | (simp; done) | (simp [*]; done)), (by first | rfl | (simp; done) | (simp [*]; done)), (by first | rfl | (simp; done) | (simp [*]; done)), H', ⟨Nat.le_refl _⟩, ⟨by repeat (first | (with_reducible first | exact HB.out | apply below_alloc | apply pw_below_drewN | apply below_drew1) | exact HB.out | exact Below.refl _ _)⟩⟩
    case round =>
      clear H'
      try clear c2
      try clear p2
      try clear c3
      try clear c5
      obtain ⟨x0_1, x1_1, x2_1, x7_1, rfl, rfl, rfl, rfl, HA, HK1, HB⟩ := hrel
      cases gk with
      | zero => exact absurd HA.out (by simp [impl_TripleDepth.l0])
      | succ k1 =>
        have H := HA.out
        clear HA
        simp only [impl_TripleDepth.l0] at H
        replace H := Option.bind_eq_some_iff.mp H
        obtain ⟨⟨t159, t160, t161, t162, t163⟩, A70, H⟩ := H
        replace H : (if t163 = true then (impl_TripleDepth.l0 k1 t159 t160 t161 (wrap64 (x7_1 + 1))) else (some x7_1)) = some r := H
        have A7 := Aside0.mk A70
        clear A70
        by_cases c8 : t163 = true
        · subst c8
          have H1 : (impl_TripleDepth.l0 k1 t159 t160 t161 (wrap64 (x7_1 + 1))) = some r := by rw [if_pos rfl] at H; exact H
          clear H
          have H := H1
          clear H1
          have H' := Aside0.mk H
          clear H
          go_wp2_with (first | ((with_reducible refine gate_callee (f := 33) rfl ?_); refine goesL_ (some 22) rfl rfl Try.func33 (by kernel_rfl) rfl #[.int .i64 x0_1, .int .i64 x1_1, .int .i64 x2_1] rfl (by (try simp only [List.map_toArray, List.map_cons, List.map_nil]); first | done | rfl | (simp only [List.length_drop, List.length_take]; rfl)) ?_; (with_reducible refine (impl_TripleParent.calls k1 x0_1 x1_1 x2_1 t159 t160 t161 t162 true _ A7.out).mono ?_); rintro e w9 ⟨rfl, hb⟩; refine ⟨_, rfl, ?_⟩; have n0_ := Aside0.mk (below_step (by repeat (first | (with_reducible first | exact HB.out | apply below_alloc | apply pw_below_drewN | apply below_drew1) | exact HB.out | exact Below.refl _ _)) hb); try clear HB; have HB := n0_; clear n0_; (try clear hb); (try clear hb2); (try clear hk); (try clear hi)))
          go_roundg k1
          case measure => have := HK1.out; omega
          case rel => exact ⟨(t159), (t160), (t161), (wrap64 (x7_1 + 1)), (by first | rfl | (simp; done) | (simp [*]; done)), (by first | rfl | (simp; done) | (simp [*]; done)), (by first | rfl | (simp; done) | (simp [*]; done)), (by first | rfl | (simp; done) | (simp [*]; done)), H', ⟨by have := HK1.out; omega⟩, ⟨by repeat (first | (with_reducible first | exact HB.out | apply below_alloc | apply pw_below_drewN | apply below_drew1) | exact HB.out | exact Below.refl _ _)⟩⟩
        · replace c8 := Bool.eq_false_iff.mpr c8
          subst c8
          have H1 : (some x7_1) = some r := by rw [if_neg (show ¬ (false = true) by decide)] at H; exact H
          clear H
          have H := H1
          clear H1
          obtain rfl := Option.some.inj H
          go_wp2_with (first | ((with_reducible refine gate_callee (f := 33) rfl ?_); refine goesL_ (some 22) rfl rfl Try.func33 (by kernel_rfl) rfl #[.int .i64 x0_1, .int .i64 x1_1, .int .i64 x2_1] rfl (by (try simp only [List.map_toArray, List.map_cons, List.map_nil]); first | done | rfl | (simp only [List.length_drop, List.length_take]; rfl)) ?_; (with_reducible refine (impl_TripleParent.calls k1 x0_1 x1_1 x2_1 t159 t160 t161 t162 false _ A7.out).mono ?_); rintro e w10 ⟨rfl, hb⟩; refine ⟨_, rfl, ?_⟩; have n0_ := Aside0.mk (below_step (by repeat (first | (with_reducible first | exact HB.out | apply below_alloc | apply pw_below_drewN | apply below_drew1) | exact HB.out | exact Below.refl _ _)) hb); try clear HB; have HB := n0_; clear n0_; (try clear hb); (try clear hb2); (try clear hk); (try clear hi)))
          go_ret
          exact ⟨by first | rfl | (simp [errW_none, errW_some] <;> rfl) | (simp [*, errW_none, errW_some] <;> rfl), by repeat (first | (with_reducible first | exact HB.out | apply below_alloc | apply pw_below_drewN | apply below_drew1) | exact HB.out | exact Below.refl _ _)⟩
  · replace c5 := Bool.eq_false_iff.mpr c5
    subst c5
    have H1 : (some (-1)) = some r := by rw [if_neg (show ¬ (false = true) by decide)] at H; exact H
    clear H
    have H := H1
    clear H1
    obtain rfl := Option.some.inj H
    go_enter Try.func35, Try.ntmps35
    go_wp2_with (first | ((with_reducible refine gate_callee (f := 29) rfl ?_); refine goesL_ (some 16) rfl rfl Try.func29 (by kernel_rfl) rfl #[.int .i64 a0, .int .i64 a1, .int .i64 a2] rfl (by (try simp only [List.map_toArray, List.map_cons, List.map_nil]); first | done | rfl | (simp only [List.length_drop, List.length_take]; rfl)) ?_; (with_reducible refine (impl_TripleIs.calls k a0 a1 a2 false _ A4.out).mono ?_); rintro e w11 ⟨rfl, hb⟩; refine ⟨_, rfl, ?_⟩; have n0_ := Aside0.mk (below_step (by repeat (first | (with_reducible first | exact HB.out | apply below_alloc | apply pw_below_drewN | apply below_drew1) | exact HB.out | exact Below.refl _ _)) hb); try clear HB; have HB := n0_; clear n0_; (try clear hb); (try clear hb2); (try clear hk); (try clear hi)))
    go_ret
    exact ⟨by first | rfl | (simp [errW_none, errW_some] <;> rfl) | (simp [*, errW_none, errW_some] <;> rfl), by repeat (first | (with_reducible first | exact HB.out | apply below_alloc | apply pw_below_drewN | apply below_drew1) | exact HB.out | exact Below.refl _ _)⟩

/-- A state of type 64 at block g of W; what its slices lead to came in by w0. -/
def IsS64 (w0 W : World) (g : Nat) (f0 : List Int) (f1 : Int) : Prop := ∃ A0 c0, W.heap[g]? = some (.cells #[.slice A0 f0.length c0, .int .i64 f1] 64 (0, 0)) ∧ w0.heap.size ≤ g ∧ Kd.C (Kd.int .u8) w0 A0 f0.length f0
theorem IsS64.grown {w0 W : World} {g : Nat} {f0 : List Int} {f1 : Int} {W1 : World} {row : Option Nat} (h : IsS64 w0 W g f0 f1) (hw : W.grownBy W1 row) (hne : some g ≠ row) : IsS64 w0 W1 g f0 f1 := by
  obtain ⟨A0, c0, hb, hg, hr0⟩ := h
  exact ⟨A0, c0, blk_grown hb hw hne, hg, hr0⟩
theorem IsS64.own_neN {w0 W : World} {g : Nat} {f0 : List Int} {f1 : Int} {α : Type} {d : Kd α} {e : Nat} {base : Nat} {ok : Nat → Prop} {v : Value} {xs : List α} (h : IsS64 w0 W g f0 f1) (ho : Kd.N d e W base ok v xs) (ht : e ≠ 64) : some g ≠ v.ownBlock := by
  obtain ⟨A0, c0, hb, hg, hr0⟩ := h
  exact Kd.N_ne ho hb ht
theorem IsS64.fresh {w0 W : World} {g : Nat} {f0 : List Int} {f1 : Int} (h : IsS64 w0 W g f0 f1) : ∀ k, W.heap.size ≤ k → k ≠ g := by
  obtain ⟨A0, c0, hb, hg, hr0⟩ := h
  exact Kd.freshB hb
theorem IsS64.kept {w0 W : World} {g : Nat} {f0 : List Int} {f1 : Int} {W1 : World} {S : Nat → Prop} (h : IsS64 w0 W g f0 f1) (hk : Kept W W1 S) (hne : ¬ S g) : IsS64 w0 W1 g f0 f1 := by
  obtain ⟨A0, c0, hb, hg, hr0⟩ := h
  exact ⟨A0, c0, blk_kept hb hk hne, hg, hr0⟩
theorem IsS64.below {w0 W : World} {g : Nat} {f0 : List Int} {f1 : Int} {W1 : World} (h : IsS64 w0 W g f0 f1) (hw : Below W.heap.size W W1) : IsS64 w0 W1 g f0 f1 := h.grown (grown_of_below hw none) (by simp)
theorem IsS64.alloc {w0 W : World} {g : Nat} {f0 : List Int} {f1 : Int} (h : IsS64 w0 W g f0 f1) (o : Obj) : IsS64 w0 (W.alloc o) g f0 f1 := h.below (below_alloc (Below.refl _ _) o)
theorem IsS64.drewN {w0 W : World} {g : Nat} {f0 : List Int} {f1 : Int} (h : IsS64 w0 W g f0 f1) (m : Nat) : IsS64 w0 (W.drewN m) g f0 f1 := h
theorem IsS64.drew {w0 W : World} {g : Nat} {f0 : List Int} {f1 : Int} (h : IsS64 w0 W g f0 f1) : IsS64 w0 W.drew g f0 f1 := h
theorem IsS64.at_ {w0 W : World} {g : Nat} {f0 : List Int} {f1 : Int} {w' : World} {m : Nat} (hq : W.drewN m = w') (h : IsS64 w0 W g f0 f1) : IsS64 w0 w' g f0 f1 := by subst hq; exact IsS64.drewN h m
theorem IsS64.apart {w0 W : World} {g : Nat} {f0 : List Int} {f1 : Int} {α : Type} {d : Kd α} {e : Nat} {base : Nat} {ok : Nat → Prop} {v : Value} {xs : List α} (h : IsS64 w0 W g f0 f1) (ho : d.R e W base ok v xs) (ht : ∀ q, q ∈ e :: d.E → q ≠ 64) : d.R e W base (fun k => ok k ∧ k ≠ g) v xs := by
  obtain ⟨A0, c0, hb, hg, hr0⟩ := h
  exact Kd.R_types ho hb ht
theorem IsS64.own_ne {w0 W : World} {g : Nat} {f0 : List Int} {f1 : Int} {α : Type} {d : Kd α} {e : Nat} {base : Nat} {ok : Nat → Prop} {v : Value} {xs : List α} (h : IsS64 w0 W g f0 f1) (ho : d.R e W base ok v xs) (ht : e ≠ 64) : some g ≠ v.ownBlock := by
  obtain ⟨A0, c0, hb, hg, hr0⟩ := h
  exact Kd.R_ne ho hb ht
theorem IsS64.apartQ {w0 W : World} {g : Nat} {f0 : List Int} {f1 : Int} {α : Type} {d : Kd α} {e : Nat} {base : Nat} {ok : Nat → Prop} {v : Value} {xs : List α} (h : IsS64 w0 W g f0 f1) (ho : d.Q e W base ok v xs) (ht : ∀ q, q ∈ e :: d.E → q ≠ 64) : d.Q e W base (fun k => ok k ∧ k ≠ g) v xs := by
  obtain ⟨A0, c0, hb, hg, hr0⟩ := h
  exact Kd.Q_types ho hb ht
theorem IsS64.own_neQ {w0 W : World} {g : Nat} {f0 : List Int} {f1 : Int} {α : Type} {d : Kd α} {e : Nat} {base : Nat} {ok : Nat → Prop} {v : Value} {xs : List α} (h : IsS64 w0 W g f0 f1) (ho : d.Q e W base ok v xs) (ht : e ≠ 64) : some g ≠ v.ownBlock := by
  obtain ⟨A0, c0, hb, hg, hr0⟩ := h
  exact Kd.Q_ne ho hb ht
theorem IsS64.apartS {w0 W : World} {g : Nat} {f0 : List Int} {f1 : Int} {α : Type} {d : Kd α} {e : Nat} {base : Nat} {ok : Nat → Prop} {v : Value} {xs : List α} (h : IsS64 w0 W g f0 f1) (ho : d.S e W base ok v xs) (ht : ∀ q, q ∈ e :: d.E → q ≠ 64) : d.S e W base (fun k => ok k ∧ k ≠ g) v xs := by
  obtain ⟨A0, c0, hb, hg, hr0⟩ := h
  exact Kd.S_types ho hb ht
theorem IsS64.own_neS {w0 W : World} {g : Nat} {f0 : List Int} {f1 : Int} {α : Type} {d : Kd α} {e : Nat} {base : Nat} {ok : Nat → Prop} {v : Value} {xs : List α} (h : IsS64 w0 W g f0 f1) (ho : d.S e W base ok v xs) (ht : e ≠ 64) : some g ≠ v.ownBlock := by
  obtain ⟨A0, c0, hb, hg, hr0⟩ := h
  exact Kd.S_ne ho hb ht
theorem IsS64.lt {w0 W : World} {g : Nat} {f0 : List Int} {f1 : Int} (h : IsS64 w0 W g f0 f1) : g < W.heap.size := by
  obtain ⟨A0, c0, hb, hg, hr0⟩ := h
  exact blk_lt hb
theorem IsS64.ge {w0 W : World} {g : Nat} {f0 : List Int} {f1 : Int} (h : IsS64 w0 W g f0 f1) : w0.heap.size ≤ g := by
  obtain ⟨A0, c0, hb, hg, hr0⟩ := h
  exact hg
theorem IsS64.ne_blk {w0 W : World} {g : Nat} {f0 : List Int} {f1 : Int} {a : Nat} {cs : Array Value} {t : TypeId} {fr : Nat × Nat} (h : IsS64 w0 W g f0 f1) (hb2 : W.heap[a]? = some (.cells cs t fr)) (ht : t ≠ 64) : g ≠ a := by
  obtain ⟨A0, c0, hb, hg, hr0⟩ := h
  rintro rfl
  rw [hb] at hb2
  injection hb2 with hb2
  injection hb2 with _ ht2
  exact ht ht2.symm
theorem IsS64.far {w0 W : World} {g : Nat} {f0 : List Int} {f1 : Int} {p : Addr} (h : IsS64 w0 W g f0 f1) (hne : g ≠ p.block) (u : Value) : IsS64 w0 (W.setCell p u) g f0 f1 := by
  obtain ⟨A0, c0, hb, hg, hr0⟩ := h
  exact ⟨A0, c0, blk_far hb hne u, hg, hr0⟩
theorem cellS64_0 {W : World} {g : Nat} {A0 : Option Addr} {c0 : Nat} {f0 : List Int} {f1 : Int} (h : W.heap[g]? = some (.cells #[.slice A0 f0.length c0, .int .i64 f1] 64 (0, 0))) : W.cell? ⟨g, 0, none⟩ = some (.slice A0 f0.length c0) := (blk_cell h 0).trans rfl
theorem cellS64_1 {W : World} {g : Nat} {A0 : Option Addr} {c0 : Nat} {f0 : List Int} {f1 : Int} (h : W.heap[g]? = some (.cells #[.slice A0 f0.length c0, .int .i64 f1] 64 (0, 0))) : W.cell? ⟨g, 1, none⟩ = some (.int .i64 f1) := (blk_cell h 1).trans rfl
theorem IsS64.set_1 {w0 W : World} {g : Nat} {f0 : List Int} {f1 : Int} (h : IsS64 w0 W g f0 f1) (x : Int) : IsS64 w0 (W.setCell ⟨g, 1, none⟩ (.int .i64 x)) g f0 x := by
  obtain ⟨A0, c0, hb, hg, hr0⟩ := h
  exact ⟨A0, c0, by simpa using blk_set hb 1 (.int .i64 x), hg, hr0⟩
theorem IsS64.new (w0 W : World) (A0 : Option Addr) (c0 : Nat) (f0 : List Int) (f1 : Int) (hB : Below w0.heap.size w0 W) (hr0 : Kd.C (Kd.int .u8) w0 A0 f0.length f0) : IsS64 w0 (W.alloc (.cells #[.slice A0 f0.length c0, .int .i64 f1] 64)) W.heap.size f0 f1 := ⟨A0, c0, by simpa using heap_alloc_new W _, hB.size, hr0⟩

/-! ### spec_l6Open: function 46 -/
def spec_l6Open.f (l0 : List Int) : Option (List Int × Int) := if (l0.length : Int) > 2000 then (if 2000 ≤ (l0.length : Int) then (some (l0.take 2000, 0)) else (none)) else (some (l0, 0))
set_option maxHeartbeats 8000000 in
set_option maxRecDepth 100000 in
theorem spec_l6Open.calls (A0 : Option Addr) (c0 : Nat) (l0 : List Int) (r1 : List Int) (r2 : Int) (w0 w : World) (hB : Below w0.heap.size w0 w) (hr0 : Kd.C (Kd.int .u8) w0 A0 l0.length l0) (hc0 : l0.length ≤ c0) (h : spec_l6Open.f l0 = some (r1, r2)) :
    Calls Try.prog 46 #[.slice A0 l0.length c0] w fun e w' => ∃ g_ : Nat, e = .returned (.pointer (some ⟨g_, 0, none⟩)) ∧ IsS64 w0 w' g_ r1 r2 ∧ Below w0.heap.size w0 w' ∧ Below w.heap.size w w' := by
  have hu64 := Try.underlying64
  have HR0 := Aside0.mk hr0
  have HC0 := Aside0.mk hc0
  clear hr0 hc0
  have HBW := Aside0.mk (Below.refl w.heap.size w)
  have HW0 := Aside0.mk hB.size
  have HB := Aside0.mk hB
  clear hB
  have H : (if (l0.length : Int) > 2000 then (if 2000 ≤ (l0.length : Int) then (some (l0.take 2000, 0)) else (none)) else (some (l0, 0))) = some (r1, r2) := h
  clear h
  by_cases c2 : (l0.length : Int) > 2000
  · rw [if_pos c2] at H
    have c2b0 : decide (2000 < (l0.length : Int)) = true := decide_eq_true c2
    have c2b1 : decide (2000 < l0.length) = true := decide_eq_true (by omega)
    clear c2
    by_cases c3 : 2000 ≤ (l0.length : Int)
    · rw [if_pos c3] at H
      have c3b0 := eq_true c3
      have c3b1 : decide (2000 ≤ (l0.length : Int)) = true := decide_eq_true c3
      clear c3
      simp only [Option.some.injEq, Prod.mk.injEq] at H
      obtain ⟨rfl, rfl⟩ := H
      obtain ⟨i04, hi04, _, hsz4, _⟩ := info_parts info5
      obtain ⟨hcut4, hA4, hC4⟩ := print_take_of (P := Try.prog) (Value.int .u8) 0 32 5 .i64 Try.underlying32 hi04 hsz4 A0 c0 l0 2000 (by omega) (of_decide_eq_true (by first | (with_reducible assumption) | assumption)) HC0.out
      have HR164 := Aside0.mk (Kd.C_of_reads (h1 := fun _ => rfl) (hA4 _ (Kd.reads_of_C HR0.out)))
      have HC164 := Aside0.mk hC4
      clear hA4 hC4 hi04 hsz4
      go_enter Try.func46, Try.ntmps46
      go_wp2_with (first | ((with_reducible refine gate_dst (N := 10) rfl ?_); refine box_event ?hg (N := 10) ?hd (cs := #[.slice A0 (l0.take 2000).length c0, .int .i64 0]) (t := 64) ?hr ?_; (case hd => rfl); (case hg => rfl); (case hr => first | (go_simp; done) | (go_simp; rfl)); intro gb165 hg w5 hbox hb; have n0_ := Aside0.mk (below_step HBW.out hb); have n1_ := Aside0.mk (below_step (by repeat (first | (with_reducible first | exact HB.out | apply below_alloc | apply pw_below_drewN | apply below_drew1) | exact HB.out | exact Below.refl _ _)) hb); have n2_ := Aside0.mk (hbox); have n3_ := Aside0.mk ((by rw [hg]; exact (below_size (by repeat (first | (with_reducible first | exact HBW.out | apply below_alloc | apply pw_below_drewN | apply below_drew1) | exact HBW.out))) : w.heap.size ≤ gb165)); have n4_ := Aside0.mk ((Nat.le_trans HW0.out (by rw [hg]; exact (below_size (by repeat (first | (with_reducible first | exact HBW.out | apply below_alloc | apply pw_below_drewN | apply below_drew1) | exact HBW.out))) : w.heap.size ≤ gb165) : w0.heap.size ≤ gb165)); clear HBW; try clear HB; have HBW := n0_; have HB := n1_; have BK165 := n2_; have GW165 := n3_; have GE165 := n4_; clear n0_ n1_ n2_ n3_ n4_; clear hb hbox hg))
      go_ret
      exact ⟨_, rfl, (show IsS64 w0 _ gb165 (l0.take 2000) 0 from ⟨_, _, by (with_reducible repeat (first | refine blk_drewN ?_ _ | refine blk_drew ?_ | refine blk_alloc ?_ _)); exact BK165.out, GE165.out, HR164.out⟩), by repeat (first | (with_reducible first | exact HB.out | apply below_alloc | apply pw_below_drewN | apply below_drew1 | refine below_set ?_ GE165.out) | exact HB.out), by repeat (first | (with_reducible first | exact HBW.out | apply below_alloc | apply pw_below_drewN | apply below_drew1 | refine below_set ?_ GW165.out) | exact HBW.out)⟩
    rw [if_neg c3] at H
    exact absurd H (by simp)
  rw [if_neg c2] at H
  have c2b0 : decide (2000 < (l0.length : Int)) = false := decide_eq_false c2
  have c2b1 : decide (2000 < l0.length) = false := decide_eq_false (by omega)
  clear c2
  simp only [Option.some.injEq, Prod.mk.injEq] at H
  obtain ⟨rfl, rfl⟩ := H
  go_enter Try.func46, Try.ntmps46
  go_wp2_with (first | ((with_reducible refine gate_dst (N := 10) rfl ?_); refine box_event ?hg (N := 10) ?hd (cs := #[.slice A0 l0.length c0, .int .i64 0]) (t := 64) ?hr ?_; (case hd => rfl); (case hg => rfl); (case hr => first | (go_simp; done) | (go_simp; rfl)); intro gb166 hg w6 hbox hb; have n0_ := Aside0.mk (below_step HBW.out hb); have n1_ := Aside0.mk (below_step (by repeat (first | (with_reducible first | exact HB.out | apply below_alloc | apply pw_below_drewN | apply below_drew1) | exact HB.out | exact Below.refl _ _)) hb); have n2_ := Aside0.mk (hbox); have n3_ := Aside0.mk ((by rw [hg]; exact (below_size (by repeat (first | (with_reducible first | exact HBW.out | apply below_alloc | apply pw_below_drewN | apply below_drew1) | exact HBW.out))) : w.heap.size ≤ gb166)); have n4_ := Aside0.mk ((Nat.le_trans HW0.out (by rw [hg]; exact (below_size (by repeat (first | (with_reducible first | exact HBW.out | apply below_alloc | apply pw_below_drewN | apply below_drew1) | exact HBW.out))) : w.heap.size ≤ gb166) : w0.heap.size ≤ gb166)); clear HBW; try clear HB; have HBW := n0_; have HB := n1_; have BK166 := n2_; have GW166 := n3_; have GE166 := n4_; clear n0_ n1_ n2_ n3_ n4_; clear hb hbox hg))
  go_ret
  exact ⟨_, rfl, (show IsS64 w0 _ gb166 l0 0 from ⟨_, _, by (with_reducible repeat (first | refine blk_drewN ?_ _ | refine blk_drew ?_ | refine blk_alloc ?_ _)); exact BK166.out, GE166.out, HR0.out⟩), by repeat (first | (with_reducible first | exact HB.out | apply below_alloc | apply pw_below_drewN | apply below_drew1 | refine below_set ?_ GE166.out) | exact HB.out), by repeat (first | (with_reducible first | exact HBW.out | apply below_alloc | apply pw_below_drewN | apply below_drew1 | refine below_set ?_ GW166.out) | exact HBW.out)⟩

end Go.Proofs.Ytpmhninmblgjoaa.PFnChild
