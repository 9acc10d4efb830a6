-- Written by a program of this session (wip/print2.py): the functions that the law reaches, plain, and the walks.
import Derived.Test.YtpaohkhmhdhibaaPFnAtx0
import Derived.Test.YtpaohkhmhdhibaaPFnAtx1
import Derived.Test.YtpaohkhmhdhibaaPFnAtx4
import Derived.Test.YtpaohkhmhdhibaaPFnAtx5
import Derived.Test.YtpaohkhmhdhibaaPFnAtx6
import Derived.Test.YtpaohkhmhdhibaaPFnAtx14
import Derived.Test.YtpaohkhmhdhibaaPFnAtx16
namespace Go.Proofs.Ytpaohkhmhdhibaa.PFnAt
open Go.RowKit Go.Proofs.YtpaohkhmhdhibaaW.PrintWords Go.Proofs.YtpaohkhmhdhibaaW.PrintLast Go.Proofs.YtpaohkhmhdhibaaW.PrintMore
attribute [local go_sem] max2_int min2_int max_two min_two max_three min_three max_four min_four   -- for this text's walks alone
set_option linter.unusedVariables false
set_option linter.unusedSimpArgs false

/-! ### impl_GcdOf: function 22 -/
def impl_GcdOf.f (k : Nat) (a0 : Int) (a1 : Int) : Option (Int) := (impl_isNumber.f a0).bind fun t559 => (if t559 = true then ((impl_isNumber.f a1).bind fun t560 => (if t560 = true then ((impl_gcd.f k (([a0, a1] : List Int))).bind fun t564 => (some t564)) else (some (-1)))) else (some (-1)))
theorem impl_GcdOf.mono : ∀ a0 a1 k, LeO (impl_GcdOf.f k a0 a1) (impl_GcdOf.f (k + 1) a0 a1) := by
  intro a0 a1 k
  unfold impl_GcdOf.f
  repeat' first
      | (with_reducible exact impl_gcd.mono _ _)
      | (with_reducible exact LeO.refl _)
      | (with_reducible exact LeO.none _)
      | (with_reducible refine LeO.ite ?_ ?_)
      | (with_reducible refine LeO.bind ?_ (fun _ => ?_))
      | exact impl_gcd.mono _ _
      | exact LeO.none _
      | refine LeO.ite ?_ ?_
      | refine LeO.bind ?_ (fun _ => ?_)
set_option maxHeartbeats 8000000 in
set_option maxRecDepth 100000 in
theorem impl_GcdOf.calls (k : Nat) (a0 : Int) (a1 : Int) (r : Int) (w : World) (h : impl_GcdOf.f k a0 a1 = some r) :
    Calls Try.prog 22 #[.int .i64 a0, .int .i64 a1] w fun e w' => e = .returned (.int .i64 r) ∧ Below w.heap.size w w' := by
  have HB := Aside0.mk (Below.refl w.heap.size w); unfold impl_GcdOf.f at h; have H := h; clear h; obtain ⟨t559, A3, H⟩ := bnd H
  by_cases c4 : t559 = true
  · subst c4
    replace H := ifT H; obtain ⟨t560, A5, H⟩ := bnd H
    by_cases c6 : t560 = true
    · subst c6
      replace H := ifT H; obtain ⟨y561, hy561⟩ : ∃ y_ : List Int, y_ = (([a0, a1] : List Int)) := ⟨_, rfl⟩; replace H : ((impl_gcd.f k y561).bind fun t564 => (some t564)) = some r := rH hy561 H; have Ny561 := Aside0.mk hy561; clear hy561; obtain ⟨t564, A7, H⟩ := bnd H; obtain rfl := Option.some.inj H; go_enter Try.func22, Try.ntmps22
      go_wp2_with (first | ((with_reducible refine gate_callee (f := 51) rfl ?_); refine goesK (some 6) Try.func51 #[.int .i64 a0] ?_; (with_reducible refine (impl_isNumber.calls a0 true _ A3.out).mono ?_); rintro e w' ⟨rfl, ⟨nd, rfl⟩⟩; refine ⟨_, rfl, ?_⟩) | (go_at_call 51; (with_reducible refine (impl_isNumber.calls a1 true _ A5.out).mono ?_); rintro e w' ⟨rfl, ⟨nd, rfl⟩⟩) | ((with_reducible refine gate_dst (N := 15) rfl ?_); refine Kd.R_lit (Kd.int .i64) _ 3 ?hg (N := 15) ?hd (xs := ([a0, a1] : List Int)) (inner := [.int .i64 a0, .int .i64 a1]) (ok := fun _ => True) (okp := fun _ => True) ?hr ?hp (fun _ hk => hk) trivial (Below.refl _ _) (Nat.le_refl _) (by simp) ?_; (case hd => rfl); (case hg => rfl); (case hr => first | (go_simp; done) | (go_simp; rfl)); (case hp => exact (Reps.one (show Kd.M (Kd.int .i64) _ _ _ a0 [.int .i64 a0] from rfl) (Reps.one (show Kd.M (Kd.int .i64) _ _ _ a1 [.int .i64 a1] from rfl) (Reps.none _ _)))); intro v562 w8 ho9 hb hg_ hnew_; clear hg_ hnew_; (first | rw [← Ny561.out] at ho9 | (simp only [Int.reduceToNat] at ho9; rw [← Ny561.out] at ho9)); have HO563 := Aside0.mk (Kd.R_lower ho9 (below_size BU)); replace HB := BS hb; clear hb ho9; obtain ⟨Ao10, co10, eo10⟩ := Kd.R_slice HO563.out; subst eo10) | ((with_reducible refine gate_callee (f := 52) rfl ?_); refine goesK (some 16) Try.func52 #[.slice Ao10 y561.length co10] ?_; (with_reducible refine (impl_gcd.calls k _ _ y561 t564 _ ?side1 ?side2 A7.out).mono ?_); (case side1 => exact U ((Kd.R_reads' HO563.out).2.2)); (case side2 => exact (Kd.R_reads' HO563.out).2.1); rintro e w11 ⟨rfl, hb⟩; refine ⟨_, rfl, ?_⟩; replace HO563 := Aside0.mk (Kd.R_below (U HO563.out) hb); replace HB := BS hb; (try clear hb)))
      go_ret
      exact ⟨eR, BU⟩
    replace c6 := Bool.eq_false_iff.mpr c6; subst c6; replace H := ifF H; obtain rfl := Option.some.inj H; go_enter Try.func22, Try.ntmps22
    go_wp2_with (first | ((with_reducible refine gate_callee (f := 51) rfl ?_); refine goesK (some 6) Try.func51 #[.int .i64 a0] ?_; (with_reducible refine (impl_isNumber.calls a0 true _ A3.out).mono ?_); rintro e w' ⟨rfl, ⟨nd, rfl⟩⟩; refine ⟨_, rfl, ?_⟩) | (go_at_call 51; (with_reducible refine (impl_isNumber.calls a1 false _ A5.out).mono ?_); rintro e w' ⟨rfl, ⟨nd, rfl⟩⟩))
    go_ret
    exact ⟨eR, BU⟩
  replace c4 := Bool.eq_false_iff.mpr c4; subst c4; replace H := ifF H; obtain rfl := Option.some.inj H; go_enter Try.func22, Try.ntmps22
  go_wp2_with (first | ((with_reducible refine gate_callee (f := 51) rfl ?_); refine goesK (some 6) Try.func51 #[.int .i64 a0] ?_; (with_reducible refine (impl_isNumber.calls a0 false _ A3.out).mono ?_); rintro e w' ⟨rfl, ⟨nd, rfl⟩⟩; refine ⟨_, rfl, ?_⟩))
  go_ret
  exact ⟨eR, BU⟩

/-! ### laws_FnAt: function 5 -/
def laws_FnAt.j0 : Nat → List Int → List Int → Int → Int → List Int → Bool → List Int → Bool → Bool → Option (Bool)
  | 0, _, _, _, _, _, _, _, _, _ => none
  | k + 1, x3, x4, x5, x6, x7, x8, x9, x10, x53 => if x53 = true then (if (x8 == x10) = true then ((laws_sameInts.f k x7 x9).bind fun t582 => (some t582)) else (none)) else ((impl_ConicBack.f k x3 x4 x7).bind fun bt583 => ((impl_GcdOf.f k x5 x6).bind fun t586 => (if x5 < 0 then (if bt583.2.2 = true then (if (wrap64 (bt583.1 * (wrap64 (-t586)))) = x5 then (some ((wrap64 (bt583.2.1 * (wrap64 (-t586)))) == x6)) else (none)) else (none)) else (if x5 = 0 then (if x6 < 0 then (if bt583.2.2 = true then (if (wrap64 (bt583.1 * (wrap64 (-t586)))) = x5 then (some ((wrap64 (bt583.2.1 * (wrap64 (-t586)))) == x6)) else (none)) else (none)) else (if bt583.2.2 = true then (if (wrap64 (bt583.1 * t586)) = x5 then (some ((wrap64 (bt583.2.1 * t586)) == x6)) else (none)) else (none))) else (if bt583.2.2 = true then (if (wrap64 (bt583.1 * t586)) = x5 then (some ((wrap64 (bt583.2.1 * t586)) == x6)) else (none)) else (none))))))
def laws_FnAt.f (k : Nat) (l0 : List Int) : Option (Bool) := if (l0.length : Int) > 1048576 then (some true) else ((spec_DrawConicAt.f k l0).bind fun bt565 => ((impl_ConicAt.f k bt565.1 bt565.2.1 bt565.2.2.1 bt565.2.2.2).bind fun bt573 => ((spec_ConicAt.f k bt565.1 bt565.2.1 bt565.2.2.1 bt565.2.2.2).bind fun bt577 => (if (bt573.2 != bt577.2) = true then (laws_FnAt.j0 k bt565.1 bt565.2.1 bt565.2.2.1 bt565.2.2.2 bt573.1 bt573.2 bt577.1 bt577.2 true) else ((laws_sameInts.f k bt573.1 bt577.1).bind fun t581 => (if t581 = true then (laws_FnAt.j0 k bt565.1 bt565.2.1 bt565.2.2.1 bt565.2.2.2 bt573.1 bt573.2 bt577.1 bt577.2 (!bt573.2)) else (laws_FnAt.j0 k bt565.1 bt565.2.1 bt565.2.2.1 bt565.2.2.2 bt573.1 bt573.2 bt577.1 bt577.2 true)))))))
theorem laws_FnAt.mono_l : ∀ k, (∀ y0 y1 y2 y3 y4 y5 y6 y7 y8, LeO (laws_FnAt.j0 k y0 y1 y2 y3 y4 y5 y6 y7 y8) (laws_FnAt.j0 (k + 1) y0 y1 y2 y3 y4 y5 y6 y7 y8))
  | 0 => fun _ _ _ _ _ _ _ _ _ r h => by simp [laws_FnAt.j0] at h
  | k + 1 => by
    have ih0 := laws_FnAt.mono_l k
    · intro y0 y1 y2 y3 y4 y5 y6 y7 y8
      unfold laws_FnAt.j0
      repeat' first
      | (with_reducible exact ih0 _ _ _ _ _ _ _ _ _)
      | (with_reducible exact impl_ConicAt.mono _ _ _ _ _)
      | (with_reducible exact impl_ConicBack.mono _ _ _ _)
      | (with_reducible exact impl_GcdOf.mono _ _ _)
      | (with_reducible exact laws_sameInts.mono _ _ _)
      | (with_reducible exact spec_ConicAt.mono _ _ _ _ _)
      | (with_reducible exact spec_DrawConicAt.mono _ _)
      | (with_reducible exact LeO.refl _)
      | (with_reducible exact LeO.none _)
      | (with_reducible refine LeO.ite ?_ ?_)
      | (with_reducible refine LeO.bind ?_ (fun _ => ?_))
      | exact ih0 _ _ _ _ _ _ _ _ _
      | exact impl_ConicAt.mono _ _ _ _ _
      | exact impl_ConicBack.mono _ _ _ _
      | exact impl_GcdOf.mono _ _ _
      | exact laws_sameInts.mono _ _ _
      | exact spec_ConicAt.mono _ _ _ _ _
      | exact spec_DrawConicAt.mono _ _
      | exact LeO.none _
      | refine LeO.ite ?_ ?_
      | refine LeO.bind ?_ (fun _ => ?_)
theorem laws_FnAt.mono : ∀ a0 k, LeO (laws_FnAt.f k a0) (laws_FnAt.f (k + 1) a0) := by
  intro a0 k
  have ih0 := laws_FnAt.mono_l k
  unfold laws_FnAt.f
  repeat' first
      | (with_reducible exact ih0 _ _ _ _ _ _ _ _ _)
      | (with_reducible exact impl_ConicAt.mono _ _ _ _ _)
      | (with_reducible exact impl_ConicBack.mono _ _ _ _)
      | (with_reducible exact impl_GcdOf.mono _ _ _)
      | (with_reducible exact laws_sameInts.mono _ _ _)
      | (with_reducible exact spec_ConicAt.mono _ _ _ _ _)
      | (with_reducible exact spec_DrawConicAt.mono _ _)
      | (with_reducible exact LeO.refl _)
      | (with_reducible exact LeO.none _)
      | (with_reducible refine LeO.ite ?_ ?_)
      | (with_reducible refine LeO.bind ?_ (fun _ => ?_))
      | exact ih0 _ _ _ _ _ _ _ _ _
      | exact impl_ConicAt.mono _ _ _ _ _
      | exact impl_ConicBack.mono _ _ _ _
      | exact impl_GcdOf.mono _ _ _
      | exact laws_sameInts.mono _ _ _
      | exact spec_ConicAt.mono _ _ _ _ _
      | exact spec_DrawConicAt.mono _ _
      | exact LeO.none _
      | refine LeO.ite ?_ ?_
      | refine LeO.bind ?_ (fun _ => ?_)
set_option maxHeartbeats 8000000 in
set_option maxRecDepth 100000 in
theorem laws_FnAt.calls (k : Nat) (A0 : Option Addr) (c0 : Nat) (l0 : List Int) (r : Bool) (w : World) (hr0 : Kd.C (Kd.int .u8) w A0 l0.length l0) (hc0 : l0.length ≤ c0) (h : laws_FnAt.f k l0 = some r) :
    Calls Try.prog 5 #[.slice A0 l0.length c0] w fun e w' => e = .returned (.bool r) ∧ Below w.heap.size w w' := by
  have HR0 := Aside0.mk hr0; have HC0 := Aside0.mk hc0; clear hr0 hc0; have HB := Aside0.mk (Below.refl w.heap.size w); unfold laws_FnAt.f at h; have H := h; clear h
  by_cases c2 : (l0.length : Int) > 1048576
  · rw [if_pos c2] at H
    have c2b0 : decide (1048576 < (l0.length : Int)) = true := decide_eq_true c2; have c2b1 : decide (1048576 < l0.length) = true := decide_eq_true (by omega); clear c2; obtain rfl := Option.some.inj H; go_enter Try.func5, Try.ntmps5
    go_wp2
    go_ret
    exact ⟨eR, BU⟩
  · rw [if_neg c2] at H
    have c2b0 : decide (1048576 < (l0.length : Int)) = false := decide_eq_false c2; have c2b1 : decide (1048576 < l0.length) = false := decide_eq_false (by omega); clear c2; obtain ⟨⟨t565, t566, t567, t568⟩, A3, H⟩ := bnd H
    replace H : ((impl_ConicAt.f k t565 t566 t567 t568).bind fun bt573 => ((spec_ConicAt.f k t565 t566 t567 t568).bind fun bt577 => (if (bt573.2 != bt577.2) = true then (laws_FnAt.j0 k t565 t566 t567 t568 bt573.1 bt573.2 bt577.1 bt577.2 true) else ((laws_sameInts.f k bt573.1 bt577.1).bind fun t581 => (if t581 = true then (laws_FnAt.j0 k t565 t566 t567 t568 bt573.1 bt573.2 bt577.1 bt577.2 (!bt573.2)) else (laws_FnAt.j0 k t565 t566 t567 t568 bt573.1 bt573.2 bt577.1 bt577.2 true)))))) = some r := H
    obtain ⟨⟨t573, t574⟩, A4, H⟩ := bnd H
    replace H : ((spec_ConicAt.f k t565 t566 t567 t568).bind fun bt577 => (if (t574 != bt577.2) = true then (laws_FnAt.j0 k t565 t566 t567 t568 t573 t574 bt577.1 bt577.2 true) else ((laws_sameInts.f k t573 bt577.1).bind fun t581 => (if t581 = true then (laws_FnAt.j0 k t565 t566 t567 t568 t573 t574 bt577.1 bt577.2 (!t574)) else (laws_FnAt.j0 k t565 t566 t567 t568 t573 t574 bt577.1 bt577.2 true))))) = some r := H
    obtain ⟨⟨t577, t578⟩, A5, H⟩ := bnd H; replace H : (if (t574 != t578) = true then (laws_FnAt.j0 k t565 t566 t567 t568 t573 t574 t577 t578 true) else ((laws_sameInts.f k t573 t577).bind fun t581 => (if t581 = true then (laws_FnAt.j0 k t565 t566 t567 t568 t573 t574 t577 t578 (!t574)) else (laws_FnAt.j0 k t565 t566 t567 t568 t573 t574 t577 t578 true)))) = some r := H; have HC6 := Aside0.mk H; clear H; go_enter Try.func5, Try.ntmps5
    go_upto_region 6 with (first | ((with_reducible refine gate_callee (f := 20) rfl ?_); refine goesK (some 20) Try.func20 #[.slice A0 l0.length c0] ?_; (with_reducible refine (spec_DrawConicAt.calls k _ _ l0 t565 t566 t567 t568 _ ?side1 ?side2 A3.out).mono ?_); (case side1 => exact U HR0.out); (case side2 => exact HC0.out); rintro e w7 ⟨v569, v571, rfl, ho0, ho1, hb⟩; refine ⟨_, rfl, ?_⟩; have HO570 := Aside0.mk (Kd.R_lower ho0 (below_size BU)); have HO572 := Aside0.mk (Kd.R_lower ho1 (below_size BU)); replace HB := BS hb; (try clear hb); (try clear ho0); (try clear ho1); obtain ⟨Ao8, co8, eo8⟩ := Kd.R_slice HO570.out; subst eo8; obtain ⟨Ao9, co9, eo9⟩ := Kd.R_slice HO572.out; subst eo9) | ((with_reducible refine gate_callee (f := 12) rfl ?_); refine goesK (some 30) Try.func12 #[.slice Ao8 t565.length co8, .slice Ao9 t566.length co9, .int .i64 t567, .int .i64 t568] ?_; (with_reducible refine (impl_ConicAt.calls k _ _ t565 _ _ t566 t567 t568 t573 t574 _ ?side1 ?side2 ?side3 ?side4 A4.out).mono ?_); (case side1 => exact U ((Kd.R_reads' HO570.out).2.2)); (case side2 => exact (Kd.R_reads' HO570.out).2.1); (case side3 => exact U ((Kd.R_reads' HO572.out).2.2)); (case side4 => exact (Kd.R_reads' HO572.out).2.1); rintro e w10 ⟨v575, rfl, ho0, hb⟩; refine ⟨_, rfl, ?_⟩; have HO576 := Aside0.mk (Kd.R_lower (Kd.R_new' (Kd.R_new' ho0 (Kd.R_lt (U HO570.out))) (Kd.R_lt (U HO572.out))) (below_size BU)); replace HO570 := Aside0.mk (Kd.R_elder' (U HO570.out) (Kd.R_base ho0) hb); replace HO572 := Aside0.mk (Kd.R_elder' (U HO572.out) (Kd.R_base ho0) hb); replace HB := BS hb; (try clear hb); (try clear ho0)) | ((with_reducible refine gate_callee (f := 21) rfl ?_); refine goesK (some 38) Try.func21 #[.slice Ao8 t565.length co8, .slice Ao9 t566.length co9, .int .i64 t567, .int .i64 t568] ?_; (with_reducible refine (spec_ConicAt.calls k _ _ t565 _ _ t566 t567 t568 t577 t578 _ ?side1 ?side2 ?side3 ?side4 A5.out).mono ?_); (case side1 => exact U ((Kd.R_reads' HO570.out).2.2)); (case side2 => exact (Kd.R_reads' HO570.out).2.1); (case side3 => exact U ((Kd.R_reads' HO572.out).2.2)); (case side4 => exact (Kd.R_reads' HO572.out).2.1); rintro e w11 ⟨v579, rfl, ho0, hb⟩; refine ⟨_, rfl, ?_⟩; have HO580 := Aside0.mk (Kd.R_lower (Kd.R_new' (Kd.R_new' (Kd.R_new' ho0 (Kd.R_lt (U HO570.out))) (Kd.R_lt (U HO572.out))) (Kd.R_lt (U HO576.out))) (below_size BU)); replace HO570 := Aside0.mk (Kd.R_elder' (U HO570.out) (Kd.R_base ho0) hb); replace HO572 := Aside0.mk (Kd.R_elder' (U HO572.out) (Kd.R_base ho0) hb); replace HO576 := Aside0.mk (Kd.R_elder' (U HO576.out) (Kd.R_base ho0) hb); replace HB := BS hb; (try clear hb); (try clear ho0)))
    (try simp only [Act.put, List.setIfInBounds_toArray, List.set_cons_zero, List.set_cons_succ])
    go_cut [53] (fun v53 wc => ∃ (kq : Nat) (x53_5 : Bool), v53 = .bool x53_5 ∧ Aside0 (laws_FnAt.j0 kq t565 t566 t567 t568 t573 t574 t577 t578 x53_5 = some r) ∧ Aside0 (kq ≤ k) ∧ Aside0 (Kd.R (Kd.int .i64) 3 wc w.heap.size (fun k_ => some k_ ≠ ((.slice Ao9 t566.length co9) : Value).ownBlock ∧ some k_ ≠ (v575 : Value).ownBlock ∧ some k_ ≠ (v579 : Value).ownBlock) (.slice Ao8 t565.length co8) t565) ∧ Aside0 (Kd.R (Kd.int .i64) 3 wc w.heap.size (fun k_ => some k_ ≠ ((.slice Ao8 t565.length co8) : Value).ownBlock ∧ some k_ ≠ (v575 : Value).ownBlock ∧ some k_ ≠ (v579 : Value).ownBlock) (.slice Ao9 t566.length co9) t566) ∧ Aside0 (Kd.R (Kd.int .i64) 3 wc w.heap.size (fun k_ => some k_ ≠ ((.slice Ao8 t565.length co8) : Value).ownBlock ∧ some k_ ≠ ((.slice Ao9 t566.length co9) : Value).ownBlock ∧ some k_ ≠ (v579 : Value).ownBlock) v575 t573) ∧ Aside0 (Kd.R (Kd.int .i64) 3 wc w.heap.size (fun k_ => some k_ ≠ ((.slice Ao8 t565.length co8) : Value).ownBlock ∧ some k_ ≠ ((.slice Ao9 t566.length co9) : Value).ownBlock ∧ some k_ ≠ (v575 : Value).ownBlock) v579 t577) ∧ Aside0 (Below w.heap.size w wc))
    case first =>
      have H := HC6.out; clear HC6
      by_cases c12 : (t574 != t578) = true
      · rw [if_pos c12] at H
        have c12b0 : (t574 != t578) = true := c12
        (try (have c12b1 : decide (t574 = t578) = false := by simpa using c12))
        (try (have c12b2 : (t574 == t578) = false := by simpa using c12))
        (try (have c12b3 : ¬ (t574 = t578) := by simpa using c12))
        clear c12
        (first | rw [c12b0] | (simp only [i64_w, i32_w]; rw [c12b0]) | skip)
        have H' := Aside0.mk H; clear H
        go_wp2
        go_meet
        case rel => exact ⟨_, (true), sR, H', ⟨oR⟩, ⟨Kd.RM HO570.out (fun _ hk => ⟨hk.1.1, ⟨hk.1.2, hk.2⟩⟩)⟩, ⟨Kd.RM HO572.out (fun _ hk => ⟨hk.1.1, ⟨hk.1.2, hk.2⟩⟩)⟩, ⟨Kd.RM HO576.out (fun _ hk => ⟨hk.1.1.2, ⟨hk.1.2, hk.2⟩⟩)⟩, ⟨Kd.RM HO580.out (fun _ hk => ⟨hk.1.1.2, ⟨hk.1.2, hk.2⟩⟩)⟩, ⟨BU⟩⟩
      · rw [if_neg c12] at H
        have c12b0 : (t574 != t578) = false := by simpa using c12
        (try (have c12b1 : decide (t574 = t578) = true := by simpa using c12))
        (try (have c12b2 : (t574 == t578) = true := by simpa using c12))
        clear c12
        (first | rw [c12b0] | (simp only [i64_w, i32_w]; rw [c12b0]) | skip)
        obtain ⟨t581, A13, H⟩ := bnd H
        by_cases c14 : t581 = true
        · subst c14
          replace H := ifT H; have H' := Aside0.mk H; clear H; obtain ⟨Ao15, co15, eo15⟩ := Kd.R_slice HO576.out; subst eo15; obtain ⟨Ao16, co16, eo16⟩ := Kd.R_slice HO580.out; subst eo16
          go_wp2_with (first | (go_at_call 15; (with_reducible refine (laws_sameInts.calls k _ _ t573 _ _ t577 true _ ?side1 ?side2 ?side3 ?side4 A13.out).mono ?_); (case side1 => exact U ((Kd.R_reads' HO576.out).2.2)); (case side2 => exact (Kd.R_reads' HO576.out).2.1); (case side3 => exact U ((Kd.R_reads' HO580.out).2.2)); (case side4 => exact (Kd.R_reads' HO580.out).2.1); rintro e w' ⟨rfl, ⟨nd, rfl⟩⟩))
          go_meet
          case rel => exact ⟨_, (!t574), sR, H', ⟨oR⟩, ⟨Kd.RM HO570.out (fun _ hk => ⟨hk.1.1, ⟨hk.1.2, hk.2⟩⟩)⟩, ⟨Kd.RM HO572.out (fun _ hk => ⟨hk.1.1, ⟨hk.1.2, hk.2⟩⟩)⟩, ⟨Kd.RM HO576.out (fun _ hk => ⟨hk.1.1.2, ⟨hk.1.2, hk.2⟩⟩)⟩, ⟨Kd.RM HO580.out (fun _ hk => ⟨hk.1.1.2, ⟨hk.1.2, hk.2⟩⟩)⟩, ⟨BU⟩⟩
        · replace c14 := Bool.eq_false_iff.mpr c14
          subst c14; replace H := ifF H; have H' := Aside0.mk H; clear H; obtain ⟨Ao17, co17, eo17⟩ := Kd.R_slice HO576.out; subst eo17; obtain ⟨Ao18, co18, eo18⟩ := Kd.R_slice HO580.out; subst eo18
          go_wp2_with (first | (go_at_call 15; (with_reducible refine (laws_sameInts.calls k _ _ t573 _ _ t577 false _ ?side1 ?side2 ?side3 ?side4 A13.out).mono ?_); (case side1 => exact U ((Kd.R_reads' HO576.out).2.2)); (case side2 => exact (Kd.R_reads' HO576.out).2.1); (case side3 => exact U ((Kd.R_reads' HO580.out).2.2)); (case side4 => exact (Kd.R_reads' HO580.out).2.1); rintro e w' ⟨rfl, ⟨nd, rfl⟩⟩))
          go_meet
          case rel => exact ⟨_, (true), sR, H', ⟨oR⟩, ⟨Kd.RM HO570.out (fun _ hk => ⟨hk.1.1, ⟨hk.1.2, hk.2⟩⟩)⟩, ⟨Kd.RM HO572.out (fun _ hk => ⟨hk.1.1, ⟨hk.1.2, hk.2⟩⟩)⟩, ⟨Kd.RM HO576.out (fun _ hk => ⟨hk.1.1.2, ⟨hk.1.2, hk.2⟩⟩)⟩, ⟨Kd.RM HO580.out (fun _ hk => ⟨hk.1.1.2, ⟨hk.1.2, hk.2⟩⟩)⟩, ⟨BU⟩⟩
    case rest =>
      clear HC6; (try clear c2); (try clear c2b0); (try clear c2b1); obtain ⟨kq, x53_5, rfl, HA, HJ5, HO_3, HO_4, HO_7, HO_9, HB⟩ := hcut; cases kq with
      | zero => exact absurd HA.out (by simp [laws_FnAt.j0])
      | succ kj5 =>
        have H := HA.out; clear HA; simp only [laws_FnAt.j0] at H
        by_cases c19 : x53_5 = true
        · subst c19
          replace H := ifT H
          by_cases c20 : (t574 == t578) = true
          · rw [if_pos c20] at H
            have c20b0 : (t574 == t578) = true := c20
            (try (have c20b1 : decide (t574 = t578) = true := by simpa using c20))
            (try (have c20b2 : (t574 == t578) = true := by simpa using c20))
            clear c20; obtain ⟨t582, A21, H⟩ := bnd H; obtain rfl := Option.some.inj H; obtain ⟨Ao22, co22, eo22⟩ := Kd.R_slice HO_7.out; subst eo22; obtain ⟨Ao23, co23, eo23⟩ := Kd.R_slice HO_9.out; subst eo23
            go_wp2_with (first | (go_at_call 15; (with_reducible refine (laws_sameInts.calls kj5 _ _ t573 _ _ t577 t582 _ ?side1 ?side2 ?side3 ?side4 A21.out).mono ?_); (case side1 => exact U ((Kd.R_reads' HO_7.out).2.2)); (case side2 => exact (Kd.R_reads' HO_7.out).2.1); (case side3 => exact U ((Kd.R_reads' HO_9.out).2.2)); (case side4 => exact (Kd.R_reads' HO_9.out).2.1); rintro e w' ⟨rfl, ⟨nd, rfl⟩⟩))
            go_ret
            exact ⟨eR, BU⟩
          · rw [if_neg c20] at H
            exact absurd H (by simp)
        · replace c19 := Bool.eq_false_iff.mpr c19
          subst c19; replace H := ifF H; obtain ⟨⟨t583, t584, t585⟩, A24, H⟩ := bnd H
          replace H : ((impl_GcdOf.f kj5 t567 t568).bind fun t586 => (if t567 < 0 then (if t585 = true then (if (wrap64 (t583 * (wrap64 (-t586)))) = t567 then (some ((wrap64 (t584 * (wrap64 (-t586)))) == t568)) else (none)) else (none)) else (if t567 = 0 then (if t568 < 0 then (if t585 = true then (if (wrap64 (t583 * (wrap64 (-t586)))) = t567 then (some ((wrap64 (t584 * (wrap64 (-t586)))) == t568)) else (none)) else (none)) else (if t585 = true then (if (wrap64 (t583 * t586)) = t567 then (some ((wrap64 (t584 * t586)) == t568)) else (none)) else (none))) else (if t585 = true then (if (wrap64 (t583 * t586)) = t567 then (some ((wrap64 (t584 * t586)) == t568)) else (none)) else (none))))) = some r := H
          obtain ⟨t586, A25, H⟩ := bnd H
          by_cases c26 : t567 < 0
          · rw [if_pos c26] at H
            have c26b0 : decide (t567 < 0) = true := decide_eq_true c26; clear c26
            by_cases c27 : t585 = true
            · subst c27
              replace H := ifT H
              by_cases c28 : (wrap64 (t583 * (wrap64 (-t586)))) = t567
              · rw [if_pos c28] at H
                have c28b0 : ((wrap64 (t583 * (wrap64 (-t586)))) == t567) = true := beq_iff_eq.mpr c28; have c28b1 : ((wrap64 (t583 * (wrap64 (-t586)))) != t567) = false := bne_eq_false_iff_eq.mpr c28; clear c28; obtain rfl := Option.some.inj H; obtain ⟨Ao29, co29, eo29⟩ := Kd.R_slice HO_7.out; subst eo29
                go_wp2_with (first | ((with_reducible refine gate_callee (f := 11) rfl ?_); refine goesK (some 66) Try.func11 #[.slice Ao8 t565.length co8, .slice Ao9 t566.length co9, .slice Ao29 t573.length co29] ?_; (with_reducible refine (impl_ConicBack.calls kj5 _ _ t565 _ _ t566 _ _ t573 t583 t584 true _ ?side1 ?side2 ?side3 ?side4 ?side5 ?side6 A24.out).mono ?_); (case side1 => exact U ((Kd.R_reads' HO_3.out).2.2)); (case side2 => exact (Kd.R_reads' HO_3.out).2.1); (case side3 => exact U ((Kd.R_reads' HO_4.out).2.2)); (case side4 => exact (Kd.R_reads' HO_4.out).2.1); (case side5 => exact U ((Kd.R_reads' HO_7.out).2.2)); (case side6 => exact (Kd.R_reads' HO_7.out).2.1); rintro e w30 ⟨rfl, hb⟩; refine ⟨_, rfl, ?_⟩; replace HO_3 := Aside0.mk (Kd.R_below (U HO_3.out) hb); replace HO_4 := Aside0.mk (Kd.R_below (U HO_4.out) hb); replace HO_7 := Aside0.mk (Kd.R_below (U HO_7.out) hb); replace HO_9 := Aside0.mk (Kd.R_below (U HO_9.out) hb); replace HB := BS hb; (try clear hb)) | ((with_reducible refine gate_callee (f := 22) rfl ?_); refine goesK (some 72) Try.func22 #[.int .i64 t567, .int .i64 t568] ?_; (with_reducible refine (impl_GcdOf.calls kj5 t567 t568 t586 _ A25.out).mono ?_); rintro e w31 ⟨rfl, hb⟩; refine ⟨_, rfl, ?_⟩; replace HO_3 := Aside0.mk (Kd.R_below (U HO_3.out) hb); replace HO_4 := Aside0.mk (Kd.R_below (U HO_4.out) hb); replace HO_7 := Aside0.mk (Kd.R_below (U HO_7.out) hb); replace HO_9 := Aside0.mk (Kd.R_below (U HO_9.out) hb); replace HB := BS hb; (try clear hb)))
                go_ret
                exact ⟨eR, BU⟩
              · rw [if_neg c28] at H
                exact absurd H (by simp)
            · replace c27 := Bool.eq_false_iff.mpr c27
              subst c27; replace H := ifF H
              exact absurd H (by simp)
          · rw [if_neg c26] at H
            have c26b0 : decide (t567 < 0) = false := decide_eq_false c26; clear c26
            by_cases c32 : t567 = 0
            · rw [if_pos c32] at H
              have c32b0 : (t567 == 0) = true := beq_iff_eq.mpr c32; have c32b1 : (t567 != 0) = false := bne_eq_false_iff_eq.mpr c32; clear c32
              by_cases c33 : t568 < 0
              · rw [if_pos c33] at H
                have c33b0 : decide (t568 < 0) = true := decide_eq_true c33; clear c33
                by_cases c34 : t585 = true
                · subst c34
                  replace H := ifT H
                  by_cases c35 : (wrap64 (t583 * (wrap64 (-t586)))) = t567
                  · rw [if_pos c35] at H
                    have c35b0 : ((wrap64 (t583 * (wrap64 (-t586)))) == t567) = true := beq_iff_eq.mpr c35; have c35b1 : ((wrap64 (t583 * (wrap64 (-t586)))) != t567) = false := bne_eq_false_iff_eq.mpr c35; clear c35; obtain rfl := Option.some.inj H; obtain ⟨Ao36, co36, eo36⟩ := Kd.R_slice HO_7.out; subst eo36
                    go_wp2_with (first | ((with_reducible refine gate_callee (f := 11) rfl ?_); refine goesK (some 66) Try.func11 #[.slice Ao8 t565.length co8, .slice Ao9 t566.length co9, .slice Ao36 t573.length co36] ?_; (with_reducible refine (impl_ConicBack.calls kj5 _ _ t565 _ _ t566 _ _ t573 t583 t584 true _ ?side1 ?side2 ?side3 ?side4 ?side5 ?side6 A24.out).mono ?_); (case side1 => exact U ((Kd.R_reads' HO_3.out).2.2)); (case side2 => exact (Kd.R_reads' HO_3.out).2.1); (case side3 => exact U ((Kd.R_reads' HO_4.out).2.2)); (case side4 => exact (Kd.R_reads' HO_4.out).2.1); (case side5 => exact U ((Kd.R_reads' HO_7.out).2.2)); (case side6 => exact (Kd.R_reads' HO_7.out).2.1); rintro e w37 ⟨rfl, hb⟩; refine ⟨_, rfl, ?_⟩; replace HO_3 := Aside0.mk (Kd.R_below (U HO_3.out) hb); replace HO_4 := Aside0.mk (Kd.R_below (U HO_4.out) hb); replace HO_7 := Aside0.mk (Kd.R_below (U HO_7.out) hb); replace HO_9 := Aside0.mk (Kd.R_below (U HO_9.out) hb); replace HB := BS hb; (try clear hb)) | ((with_reducible refine gate_callee (f := 22) rfl ?_); refine goesK (some 72) Try.func22 #[.int .i64 t567, .int .i64 t568] ?_; (with_reducible refine (impl_GcdOf.calls kj5 t567 t568 t586 _ A25.out).mono ?_); rintro e w38 ⟨rfl, hb⟩; refine ⟨_, rfl, ?_⟩; replace HO_3 := Aside0.mk (Kd.R_below (U HO_3.out) hb); replace HO_4 := Aside0.mk (Kd.R_below (U HO_4.out) hb); replace HO_7 := Aside0.mk (Kd.R_below (U HO_7.out) hb); replace HO_9 := Aside0.mk (Kd.R_below (U HO_9.out) hb); replace HB := BS hb; (try clear hb)))
                    go_ret
                    exact ⟨eR, BU⟩
                  · rw [if_neg c35] at H
                    exact absurd H (by simp)
                · replace c34 := Bool.eq_false_iff.mpr c34
                  subst c34; replace H := ifF H
                  exact absurd H (by simp)
              · rw [if_neg c33] at H
                have c33b0 : decide (t568 < 0) = false := decide_eq_false c33; clear c33
                by_cases c39 : t585 = true
                · subst c39
                  replace H := ifT H
                  by_cases c40 : (wrap64 (t583 * t586)) = t567
                  · rw [if_pos c40] at H
                    have c40b0 : ((wrap64 (t583 * t586)) == t567) = true := beq_iff_eq.mpr c40; have c40b1 : ((wrap64 (t583 * t586)) != t567) = false := bne_eq_false_iff_eq.mpr c40; clear c40; obtain rfl := Option.some.inj H; obtain ⟨Ao41, co41, eo41⟩ := Kd.R_slice HO_7.out; subst eo41
                    go_wp2_with (first | ((with_reducible refine gate_callee (f := 11) rfl ?_); refine goesK (some 66) Try.func11 #[.slice Ao8 t565.length co8, .slice Ao9 t566.length co9, .slice Ao41 t573.length co41] ?_; (with_reducible refine (impl_ConicBack.calls kj5 _ _ t565 _ _ t566 _ _ t573 t583 t584 true _ ?side1 ?side2 ?side3 ?side4 ?side5 ?side6 A24.out).mono ?_); (case side1 => exact U ((Kd.R_reads' HO_3.out).2.2)); (case side2 => exact (Kd.R_reads' HO_3.out).2.1); (case side3 => exact U ((Kd.R_reads' HO_4.out).2.2)); (case side4 => exact (Kd.R_reads' HO_4.out).2.1); (case side5 => exact U ((Kd.R_reads' HO_7.out).2.2)); (case side6 => exact (Kd.R_reads' HO_7.out).2.1); rintro e w42 ⟨rfl, hb⟩; refine ⟨_, rfl, ?_⟩; replace HO_3 := Aside0.mk (Kd.R_below (U HO_3.out) hb); replace HO_4 := Aside0.mk (Kd.R_below (U HO_4.out) hb); replace HO_7 := Aside0.mk (Kd.R_below (U HO_7.out) hb); replace HO_9 := Aside0.mk (Kd.R_below (U HO_9.out) hb); replace HB := BS hb; (try clear hb)) | ((with_reducible refine gate_callee (f := 22) rfl ?_); refine goesK (some 72) Try.func22 #[.int .i64 t567, .int .i64 t568] ?_; (with_reducible refine (impl_GcdOf.calls kj5 t567 t568 t586 _ A25.out).mono ?_); rintro e w43 ⟨rfl, hb⟩; refine ⟨_, rfl, ?_⟩; replace HO_3 := Aside0.mk (Kd.R_below (U HO_3.out) hb); replace HO_4 := Aside0.mk (Kd.R_below (U HO_4.out) hb); replace HO_7 := Aside0.mk (Kd.R_below (U HO_7.out) hb); replace HO_9 := Aside0.mk (Kd.R_below (U HO_9.out) hb); replace HB := BS hb; (try clear hb)))
                    go_ret
                    exact ⟨eR, BU⟩
                  · rw [if_neg c40] at H
                    exact absurd H (by simp)
                · replace c39 := Bool.eq_false_iff.mpr c39
                  subst c39; replace H := ifF H
                  exact absurd H (by simp)
            · rw [if_neg c32] at H
              have c32b0 : (t567 == 0) = false := beq_eq_false_iff_ne.mpr c32; have c32b1 : (t567 != 0) = true := bne_iff_ne.mpr c32
              by_cases c44 : t585 = true
              · subst c44
                replace H := ifT H
                by_cases c45 : (wrap64 (t583 * t586)) = t567
                · rw [if_pos c45] at H
                  have c45b0 : ((wrap64 (t583 * t586)) == t567) = true := beq_iff_eq.mpr c45; have c45b1 : ((wrap64 (t583 * t586)) != t567) = false := bne_eq_false_iff_eq.mpr c45; clear c45; obtain rfl := Option.some.inj H; obtain ⟨Ao46, co46, eo46⟩ := Kd.R_slice HO_7.out; subst eo46
                  go_wp2_with (first | ((with_reducible refine gate_callee (f := 11) rfl ?_); refine goesK (some 66) Try.func11 #[.slice Ao8 t565.length co8, .slice Ao9 t566.length co9, .slice Ao46 t573.length co46] ?_; (with_reducible refine (impl_ConicBack.calls kj5 _ _ t565 _ _ t566 _ _ t573 t583 t584 true _ ?side1 ?side2 ?side3 ?side4 ?side5 ?side6 A24.out).mono ?_); (case side1 => exact U ((Kd.R_reads' HO_3.out).2.2)); (case side2 => exact (Kd.R_reads' HO_3.out).2.1); (case side3 => exact U ((Kd.R_reads' HO_4.out).2.2)); (case side4 => exact (Kd.R_reads' HO_4.out).2.1); (case side5 => exact U ((Kd.R_reads' HO_7.out).2.2)); (case side6 => exact (Kd.R_reads' HO_7.out).2.1); rintro e w47 ⟨rfl, hb⟩; refine ⟨_, rfl, ?_⟩; replace HO_3 := Aside0.mk (Kd.R_below (U HO_3.out) hb); replace HO_4 := Aside0.mk (Kd.R_below (U HO_4.out) hb); replace HO_7 := Aside0.mk (Kd.R_below (U HO_7.out) hb); replace HO_9 := Aside0.mk (Kd.R_below (U HO_9.out) hb); replace HB := BS hb; (try clear hb)) | ((with_reducible refine gate_callee (f := 22) rfl ?_); refine goesK (some 72) Try.func22 #[.int .i64 t567, .int .i64 t568] ?_; (with_reducible refine (impl_GcdOf.calls kj5 t567 t568 t586 _ A25.out).mono ?_); rintro e w48 ⟨rfl, hb⟩; refine ⟨_, rfl, ?_⟩; replace HO_3 := Aside0.mk (Kd.R_below (U HO_3.out) hb); replace HO_4 := Aside0.mk (Kd.R_below (U HO_4.out) hb); replace HO_7 := Aside0.mk (Kd.R_below (U HO_7.out) hb); replace HO_9 := Aside0.mk (Kd.R_below (U HO_9.out) hb); replace HB := BS hb; (try clear hb)))
                  go_ret
                  exact ⟨eR, BU⟩
                · rw [if_neg c45] at H
                  exact absurd H (by simp)
              · replace c44 := Bool.eq_false_iff.mpr c44
                subst c44; replace H := ifF H
                exact absurd H (by simp)

/-- THE ONE PURE STATEMENT of laws_FnAt: yours. -/
def laws_FnAt.Pure : Prop := ∀ (l0 : List Int), l0.length ≤ maxLen → l0.length * 1 ≤ 140737488351232 → (∀ x ∈ l0, (Lit.int .u8 x).wf = true) → ∃ k, laws_FnAt.f k l0 = some true
theorem laws_FnAt.walk (P : laws_FnAt.Pure) (a0 : Option Addr) (len0 cap0 : Nat) (z0 : List Int) (w : World) (w0 : (a0 = none ∧ len0 = 0 ∧ cap0 = 0 ∧ z0 = []) ∨ ∃ x, a0 = some x ∧ len0 ≤ cap0 ∧ cap0 ≤ maxLen ∧ z0.length = cap0 ∧ (∀ i, i < z0.length → w.cell? (x.add i) = some (.int .u8 (z0.getD i 0))) ∧ ∀ n ∈ z0, (Lit.int .u8 n).wf = true) (y0 : len0 * 1 ≤ 140737488351232) :
    Calls Try.prog 5 #[.slice a0 len0 cap0] w fun e w' => e = .returned (.bool true) ∧ Below w.heap.size w w' := by
  obtain ⟨l0, rfl, hr0, hm0, hw0, hc0⟩ := ReadsInt.ofRowC w0
  obtain ⟨k, h⟩ := P l0 hm0 y0 hw0
  refine (laws_FnAt.calls k _ _ l0 true w (Kd.C_of_reads (d := (0 : Int)) (h1 := fun _ => rfl) hr0) hc0 h).mono ?_
  rintro e w' ⟨rfl, hd⟩
  exact ⟨rfl, hd⟩

end Go.Proofs.Ytpaohkhmhdhibaa.PFnAt
