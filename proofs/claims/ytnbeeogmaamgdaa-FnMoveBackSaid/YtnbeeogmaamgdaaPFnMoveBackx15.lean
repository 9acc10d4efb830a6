-- Written by a program of this session (wip/print2.py): the functions that the law reaches, plain, and the walks.
import Derived.Test.YtnbeeogmaamgdaaPFnMoveBackx0
import Derived.Test.YtnbeeogmaamgdaaPFnMoveBackx1
import Derived.Test.YtnbeeogmaamgdaaPFnMoveBackx5
import Derived.Test.YtnbeeogmaamgdaaPFnMoveBackx6
import Derived.Test.YtnbeeogmaamgdaaPFnMoveBackx13
import Derived.Test.YtnbeeogmaamgdaaPFnMoveBackx14
namespace Go.Proofs.Ytnbeeogmaamgdaa.PFnMoveBack
open Go.RowKit Go.Proofs.YtnbeeogmaamgdaaW.PrintWords Go.Proofs.YtnbeeogmaamgdaaW.PrintLast Go.Proofs.YtnbeeogmaamgdaaW.PrintMore
attribute [local go_sem] max2_int min2_int max_two min_two max_three min_three max_four min_four   -- for this text's walks alone
set_option linter.unusedVariables false
set_option linter.unusedSimpArgs false

/-! ### laws_FnMoveBack: function 8 -/
def laws_FnMoveBack.j0 : Nat → List Int → Bool → Bool → Bool → List (List Int) → Int → List (List Int) → Int → List (List Int) → Int → Option (Bool)
  | 0, _, _, _, _, _, _, _, _, _, _ => none
  | k + 1, x3, x6, x8, x43, x491000, x491001, x497000, x497001, x503000, x503001 => if x43 = true then (if (x6 == x8) = true then ((laws_sameMove.f k x497000 x497001 x503000 x503001).bind fun t504 => (some t504)) else (none)) else ((impl_MoveBack.f k x3 x497000 x497001).bind fun bt505 => (if bt505.2.2 = true then ((laws_sameMove.f k bt505.1 bt505.2.1 x491000 x491001).bind fun t511 => (if t511 = true then ((impl_MoveSign.f k x3 x497000 x497001).bind fun t512 => ((impl_MoveSign.f k x3 x491000 x491001).bind fun t513 => (some (t512 == t513)))) else (none))) else ((impl_MoveSign.f k x3 x497000 x497001).bind fun t514 => ((impl_MoveSign.f k x3 x491000 x491001).bind fun t515 => (some (t514 == t515))))))
def laws_FnMoveBack.f (k : Nat) (l0 : List Int) : Option (Bool) := if (l0.length : Int) > 1048576 then (some true) else ((spec_DrawMoveBack.f k l0).bind fun bt483 => ((impl_MoveBack.f k bt483.1 bt483.2.1 bt483.2.2).bind fun bt491 => ((spec_MoveBack.f k bt483.1 bt483.2.1 bt483.2.2).bind fun bt497 => (if (bt491.2.2 != bt497.2.2) = true then (laws_FnMoveBack.j0 k bt483.1 bt491.2.2 bt497.2.2 true bt483.2.1 bt483.2.2 bt491.1 bt491.2.1 bt497.1 bt497.2.1) else ((laws_sameMove.f k bt491.1 bt491.2.1 bt497.1 bt497.2.1).bind fun t503 => (if t503 = true then (laws_FnMoveBack.j0 k bt483.1 bt491.2.2 bt497.2.2 (!bt491.2.2) bt483.2.1 bt483.2.2 bt491.1 bt491.2.1 bt497.1 bt497.2.1) else (laws_FnMoveBack.j0 k bt483.1 bt491.2.2 bt497.2.2 true bt483.2.1 bt483.2.2 bt491.1 bt491.2.1 bt497.1 bt497.2.1)))))))
theorem laws_FnMoveBack.mono_l : ∀ k, (∀ y0 y1 y2 y3 y4 y5 y6 y7 y8 y9, LeO (laws_FnMoveBack.j0 k y0 y1 y2 y3 y4 y5 y6 y7 y8 y9) (laws_FnMoveBack.j0 (k + 1) y0 y1 y2 y3 y4 y5 y6 y7 y8 y9))
  | 0 => fun _ _ _ _ _ _ _ _ _ _ r h => by simp [laws_FnMoveBack.j0] at h
  | k + 1 => by
    have ih0 := laws_FnMoveBack.mono_l k
    · intro y0 y1 y2 y3 y4 y5 y6 y7 y8 y9
      unfold laws_FnMoveBack.j0
      repeat' first
      | (with_reducible exact ih0 _ _ _ _ _ _ _ _ _ _)
      | (with_reducible exact impl_MoveBack.mono _ _ _ _)
      | (with_reducible exact impl_MoveSign.mono _ _ _ _)
      | (with_reducible exact laws_sameMove.mono _ _ _ _ _)
      | (with_reducible exact spec_DrawMoveBack.mono _ _)
      | (with_reducible exact spec_MoveBack.mono _ _ _ _)
      | (with_reducible exact LeO.refl _)
      | (with_reducible exact LeO.none _)
      | (with_reducible refine LeO.ite ?_ ?_)
      | (with_reducible refine LeO.bind ?_ (fun _ => ?_))
      | exact ih0 _ _ _ _ _ _ _ _ _ _
      | exact impl_MoveBack.mono _ _ _ _
      | exact impl_MoveSign.mono _ _ _ _
      | exact laws_sameMove.mono _ _ _ _ _
      | exact spec_DrawMoveBack.mono _ _
      | exact spec_MoveBack.mono _ _ _ _
      | exact LeO.none _
      | refine LeO.ite ?_ ?_
      | refine LeO.bind ?_ (fun _ => ?_)
theorem laws_FnMoveBack.mono : ∀ a0 k, LeO (laws_FnMoveBack.f k a0) (laws_FnMoveBack.f (k + 1) a0) := by
  intro a0 k
  have ih0 := laws_FnMoveBack.mono_l k
  unfold laws_FnMoveBack.f
  repeat' first
      | (with_reducible exact ih0 _ _ _ _ _ _ _ _ _ _)
      | (with_reducible exact impl_MoveBack.mono _ _ _ _)
      | (with_reducible exact impl_MoveSign.mono _ _ _ _)
      | (with_reducible exact laws_sameMove.mono _ _ _ _ _)
      | (with_reducible exact spec_DrawMoveBack.mono _ _)
      | (with_reducible exact spec_MoveBack.mono _ _ _ _)
      | (with_reducible exact LeO.refl _)
      | (with_reducible exact LeO.none _)
      | (with_reducible refine LeO.ite ?_ ?_)
      | (with_reducible refine LeO.bind ?_ (fun _ => ?_))
      | exact ih0 _ _ _ _ _ _ _ _ _ _
      | exact impl_MoveBack.mono _ _ _ _
      | exact impl_MoveSign.mono _ _ _ _
      | exact laws_sameMove.mono _ _ _ _ _
      | exact spec_DrawMoveBack.mono _ _
      | exact spec_MoveBack.mono _ _ _ _
      | exact LeO.none _
      | refine LeO.ite ?_ ?_
      | refine LeO.bind ?_ (fun _ => ?_)
def laws_FnMoveBack.T9 : Bool × List (List Nat × List Nat) := (true, [([], []), ([0], [0]), ([1], [1]), ([2], [2]), ([2], [2]), ([3, 4, 2, 2], [2, 3, 4]), ([2, 5], [2, 5]), ([6, 5], [6]), ([7], [7]), ([7], [7]), ([8, 9, 7, 7], [7, 8, 9]), ([7], [7]), ([7], [7]), ([11, 12, 10, 7], [7, 11, 12]), ([10, 13, 7], [7, 10, 13]), ([7, 14], [7, 14]), ([15, 13, 0, 1, 2, 3, 4, 5, 6, 7, 8, 9, 10, 11, 12, 13, 14, 15], [15])])
def laws_FnMoveBack.B9 : List Nat := [0, 1, 3, 7, 7, 31, 63, 127, 255, 255, 1023, 255, 255, 8191, 16383, 32767, 65535]
theorem laws_FnMoveBack.tab9 : rtab .any (opsOf Try.f8 9) = laws_FnMoveBack.T9 := by kernel_rfl
theorem laws_FnMoveBack.bits9 : waitsOk laws_FnMoveBack.T9.2 laws_FnMoveBack.B9 = true := by kernel_rfl
set_option maxHeartbeats 8000000 in
set_option maxRecDepth 100000 in
theorem laws_FnMoveBack.calls (k : Nat) (A0 : Option Addr) (c0 : Nat) (l0 : List Int) (r : Bool) (w : World) (hr0 : Kd.C (Kd.int .u8) w A0 l0.length l0) (hc0 : l0.length ≤ c0) (h : laws_FnMoveBack.f k l0 = some r) :
    Calls Try.prog 8 #[.slice A0 l0.length c0] w fun e w' => e = .returned (.bool r) ∧ Below w.heap.size w w' := by
  have hu27 := Try.underlying27; have HR0 := Aside0.mk hr0; have HC0 := Aside0.mk hc0; clear hr0 hc0; have HB := Aside0.mk (Below.refl w.heap.size w); unfold laws_FnMoveBack.f at h; have H := h; clear h
  by_cases c2 : (l0.length : Int) > 1048576
  · rw [if_pos c2] at H
    have c2b0 : decide (1048576 < (l0.length : Int)) = true := decide_eq_true c2; have c2b1 : decide (1048576 < l0.length) = true := decide_eq_true (by omega); clear c2; obtain rfl := Option.some.inj H; go_enter Try.func8, Try.ntmps8
    go_wp2
    go_ret
    exact ⟨eR, BU⟩
  · rw [if_neg c2] at H
    have c2b0 : decide (1048576 < (l0.length : Int)) = false := decide_eq_false c2; have c2b1 : decide (1048576 < l0.length) = false := decide_eq_false (by omega); clear c2; obtain ⟨⟨t483, t486, t489⟩, A3, H⟩ := bnd H
    replace H : ((impl_MoveBack.f k t483 t486 t489).bind fun bt491 => ((spec_MoveBack.f k t483 t486 t489).bind fun bt497 => (if (bt491.2.2 != bt497.2.2) = true then (laws_FnMoveBack.j0 k t483 bt491.2.2 bt497.2.2 true t486 t489 bt491.1 bt491.2.1 bt497.1 bt497.2.1) else ((laws_sameMove.f k bt491.1 bt491.2.1 bt497.1 bt497.2.1).bind fun t503 => (if t503 = true then (laws_FnMoveBack.j0 k t483 bt491.2.2 bt497.2.2 (!bt491.2.2) t486 t489 bt491.1 bt491.2.1 bt497.1 bt497.2.1) else (laws_FnMoveBack.j0 k t483 bt491.2.2 bt497.2.2 true t486 t489 bt491.1 bt491.2.1 bt497.1 bt497.2.1)))))) = some r := H
    obtain ⟨⟨t491, t494, t495⟩, A4, H⟩ := bnd H
    replace H : ((spec_MoveBack.f k t483 t486 t489).bind fun bt497 => (if (t495 != bt497.2.2) = true then (laws_FnMoveBack.j0 k t483 t495 bt497.2.2 true t486 t489 t491 t494 bt497.1 bt497.2.1) else ((laws_sameMove.f k t491 t494 bt497.1 bt497.2.1).bind fun t503 => (if t503 = true then (laws_FnMoveBack.j0 k t483 t495 bt497.2.2 (!t495) t486 t489 t491 t494 bt497.1 bt497.2.1) else (laws_FnMoveBack.j0 k t483 t495 bt497.2.2 true t486 t489 t491 t494 bt497.1 bt497.2.1))))) = some r := H
    obtain ⟨⟨t497, t500, t501⟩, A5, H⟩ := bnd H; replace H : (if (t495 != t501) = true then (laws_FnMoveBack.j0 k t483 t495 t501 true t486 t489 t491 t494 t497 t500) else ((laws_sameMove.f k t491 t494 t497 t500).bind fun t503 => (if t503 = true then (laws_FnMoveBack.j0 k t483 t495 t501 (!t495) t486 t489 t491 t494 t497 t500) else (laws_FnMoveBack.j0 k t483 t495 t501 true t486 t489 t491 t494 t497 t500)))) = some r := H; have HC6 := Aside0.mk H; clear H; go_enter Try.func8, Try.ntmps8
    go_upto_region 6 with (first | ((with_reducible refine gate_callee (f := 38) rfl ?_); refine goesK (some 16) Try.func38 #[.slice A0 l0.length c0] ?_; (with_reducible refine (spec_DrawMoveBack.calls k _ _ l0 t483 t486 t489 _ ?side1 ?side2 A3.out).mono ?_); (case side1 => exact U HR0.out); (case side2 => exact HC0.out); rintro e w7 ⟨v484, v487, rfl, ho0, ho1, hb⟩; refine ⟨_, rfl, ?_⟩; have HO485 := Aside0.mk (Kd.Q_lower ho0 (below_size BU)); have HO488 := Aside0.mk (Kd.S_lower ho1 (below_size BU)); replace HB := BS hb; (try clear hb); (try clear ho0); (try clear ho1)) | ((with_reducible refine gate_dst (N := 4) rfl ?_); refine boxE (N := 4) (cs := #[.slice none 0 0, .int .i64 0]) (t := 27) ?_; intro gb490 hg w8 hbox hb; replace HO485 := Aside0.mk (Kd.Q_below (U HO485.out) hb); replace HO488 := Aside0.mk (Kd.S_below (U HO488.out) hb); have BK490 := Aside0.mk (hbox); have GW490 := GS w hg; have GE490 := GS w hg; replace HB := BS hb; clear hb hbox hg; obtain ⟨Ao9, co9, eo9⟩ := Kd.S_slice HO488.out; subst eo9; obtain ⟨hcz10_0, hcz10_1, hfz10_0, hfz10_1⟩ := bcf BK490; obtain ⟨Ao11, co11, eo11, _⟩ := Kd.Q_slice HO485.out; subst eo11) | ((with_reducible refine gate_callee (f := 19) rfl ?_); refine goesK (some 22) Try.func19 #[.slice Ao11 t483.length co11, .agg #[.slice Ao9 t486.length co9, .int .i64 t489]] ?_; (with_reducible refine (impl_MoveBack.calls k _ _ t483 _ _ t486 t489 t491 t494 t495 _ ?side1 ?side2 ?side3 ?side4 A4.out).mono ?_); (case side1 => refine (Kd.Q_reads' (e := 3) (base := w.heap.size) (ok := fun k_ => True) (n := t483.length) (c := co11) ?_).2.2; exact (Kd.QM (Kd.Q_far (p := ⟨gb490, 1, none⟩) (Kd.Q_far (p := ⟨gb490, 0, none⟩) (Kd.Q_types HO485.out BK490.out (by decide)) (fun _ hk => hk.2) (.slice Ao9 t486.length co9)) (fun _ hk => hk.2) (.int .i64 t489)) (fun _ h_ => h_.1))); (case side2 => exact (Kd.Q_reads' HO485.out).2.1); (case side3 => refine (Kd.S_reads' (e := 23) (base := w.heap.size) (ok := fun k_ => some k_ ≠ (.slice Ao11 t483.length co11 : Value).ownBlock) (n := t486.length) (c := co9) ?_).2.2; exact (Kd.SM (Kd.S_far (p := ⟨gb490, 1, none⟩) (Kd.S_far (p := ⟨gb490, 0, none⟩) (Kd.S_types HO488.out BK490.out (by decide)) (fun _ hk => hk.2) (.slice Ao9 t486.length co9)) (fun _ hk => hk.2) (.int .i64 t489)) (fun _ h_ => h_.1))); (case side4 => exact (Kd.S_reads' HO488.out).2.1); rintro e w12 ⟨v492, rfl, ho0, hb⟩; refine ⟨_, rfl, ?_⟩; have HO493 := Aside0.mk (Kd.S_lower (Kd.S_new' (Kd.S_new' ho0 (Kd.Q_lt (Kd.QM (Kd.Q_far (p := ⟨gb490, 1, none⟩) (Kd.Q_far (p := ⟨gb490, 0, none⟩) (Kd.Q_types HO485.out BK490.out (by decide)) (fun _ hk => hk.2) (.slice Ao9 t486.length co9)) (fun _ hk => hk.2) (.int .i64 t489)) (fun _ h_ => h_.1)))) (Kd.S_lt (Kd.SM (Kd.S_far (p := ⟨gb490, 1, none⟩) (Kd.S_far (p := ⟨gb490, 0, none⟩) (Kd.S_types HO488.out BK490.out (by decide)) (fun _ hk => hk.2) (.slice Ao9 t486.length co9)) (fun _ hk => hk.2) (.int .i64 t489)) (fun _ h_ => h_.1)))) (below_size BU)); replace HO485 := Aside0.mk (Kd.Q_below (Kd.QM (Kd.Q_far (p := ⟨gb490, 1, none⟩) (Kd.Q_far (p := ⟨gb490, 0, none⟩) (Kd.Q_types HO485.out BK490.out (by decide)) (fun _ hk => hk.2) (.slice Ao9 t486.length co9)) (fun _ hk => hk.2) (.int .i64 t489)) (fun _ h_ => h_.1)) hb); replace HO488 := Aside0.mk (Kd.S_elder' (Kd.SM (Kd.S_far (p := ⟨gb490, 1, none⟩) (Kd.S_far (p := ⟨gb490, 0, none⟩) (Kd.S_types HO488.out BK490.out (by decide)) (fun _ hk => hk.2) (.slice Ao9 t486.length co9)) (fun _ hk => hk.2) (.int .i64 t489)) (fun _ h_ => h_.1)) (Kd.S_base ho0) hb); replace BK490 := Aside0.mk (blk_below (g := gb490) (o := .cells #[.slice Ao9 t486.length co9, .int .i64 t489] 27 (0, 0)) (by (with_reducible repeat (first | refine blk_drewN ?_ _ | refine blk_drew ?_ | refine blk_alloc ?_ _)); refine blk_put (cs := #[.slice Ao9 t486.length co9, .int .i64 0]) ?_ 1 _ rfl; (with_reducible repeat (first | refine blk_drewN ?_ _ | refine blk_drew ?_ | refine blk_alloc ?_ _)); refine blk_put (cs := #[.slice none 0 0, .int .i64 0]) ?_ 0 _ rfl; (with_reducible repeat (first | refine blk_drewN ?_ _ | refine blk_drew ?_ | refine blk_alloc ?_ _)); exact BK490.out) hb); replace HB := BS hb; (try clear hb); (try clear ho0)) | ((with_reducible refine gate_dst (N := 5) rfl ?_); refine boxE (N := 5) (cs := #[.slice none 0 0, .int .i64 0]) (t := 27) ?_; intro gb496 hg w13 hbox hb; replace HO485 := Aside0.mk (Kd.Q_below (U HO485.out) hb); replace HO488 := Aside0.mk (Kd.S_below (U HO488.out) hb); replace HO493 := Aside0.mk (Kd.S_below (U HO493.out) hb); have BK496 := Aside0.mk (hbox); have GW496 := GS w hg; have GE496 := GS w hg; replace HB := BS hb; have NB490_496 := NL BK490 hg; have NB496_490 := NG BK490 hg; replace BK490 := bB BK490 hb; clear hb hbox hg; obtain ⟨Ao14, co14, eo14⟩ := Kd.S_slice HO493.out; subst eo14; have hnb15 := NB496_490.out; have hnc15 := NB490_496.out; obtain ⟨hcz16_0, hcz16_1, hfz16_0, hfz16_1⟩ := bcf BK496; obtain ⟨hcz17_0, hcz17_1, hfz17_0, hfz17_1⟩ := bcf BK490) | ((with_reducible refine gate_callee (f := 39) rfl ?_); refine goesK (some 28) Try.func39 #[.slice Ao11 t483.length co11, .agg #[.slice Ao9 t486.length co9, .int .i64 t489]] ?_; (with_reducible refine (spec_MoveBack.calls k _ _ t483 _ _ t486 t489 t497 t500 t501 _ ?side1 ?side2 ?side3 ?side4 A5.out).mono ?_); (case side1 => refine (Kd.Q_reads' (e := 3) (base := w.heap.size) (ok := fun k_ => True) (n := t483.length) (c := co11) ?_).2.2; exact (Kd.QM (Kd.Q_far (p := ⟨gb496, 1, none⟩) (Kd.Q_far (p := ⟨gb496, 0, none⟩) (Kd.Q_types HO485.out BK496.out (by decide)) (fun _ hk => hk.2) (.slice Ao14 t491.length co14)) (fun _ hk => hk.2) (.int .i64 t494)) (fun _ h_ => h_.1))); (case side2 => exact (Kd.Q_reads' HO485.out).2.1); (case side3 => refine (Kd.S_reads' (e := 23) (base := w.heap.size) (ok := fun k_ => (some k_ ≠ (.slice Ao11 t483.length co11 : Value).ownBlock ∧ some k_ ≠ (.slice Ao14 t491.length co14 : Value).ownBlock)) (n := t486.length) (c := co9) ?_).2.2; exact (Kd.SM (Kd.S_far (p := ⟨gb496, 1, none⟩) (Kd.S_far (p := ⟨gb496, 0, none⟩) (Kd.S_types HO488.out BK496.out (by decide)) (fun _ hk => hk.2) (.slice Ao14 t491.length co14)) (fun _ hk => hk.2) (.int .i64 t494)) (fun _ h_ => h_.1))); (case side4 => exact (Kd.S_reads' HO488.out).2.1); rintro e w18 ⟨v498, rfl, ho0, hb⟩; refine ⟨_, rfl, ?_⟩; have HO499 := Aside0.mk (Kd.S_lower (Kd.S_new' (Kd.S_new' (Kd.S_new' ho0 (Kd.Q_lt (Kd.QM (Kd.Q_far (p := ⟨gb496, 1, none⟩) (Kd.Q_far (p := ⟨gb496, 0, none⟩) (Kd.Q_types HO485.out BK496.out (by decide)) (fun _ hk => hk.2) (.slice Ao14 t491.length co14)) (fun _ hk => hk.2) (.int .i64 t494)) (fun _ h_ => h_.1)))) (Kd.S_lt (Kd.SM (Kd.S_far (p := ⟨gb496, 1, none⟩) (Kd.S_far (p := ⟨gb496, 0, none⟩) (Kd.S_types HO488.out BK496.out (by decide)) (fun _ hk => hk.2) (.slice Ao14 t491.length co14)) (fun _ hk => hk.2) (.int .i64 t494)) (fun _ h_ => h_.1)))) (Kd.S_lt (Kd.SM (Kd.S_far (p := ⟨gb496, 1, none⟩) (Kd.S_far (p := ⟨gb496, 0, none⟩) (Kd.S_types HO493.out BK496.out (by decide)) (fun _ hk => hk.2) (.slice Ao14 t491.length co14)) (fun _ hk => hk.2) (.int .i64 t494)) (fun _ h_ => h_.1)))) (below_size BU)); replace HO485 := Aside0.mk (Kd.Q_below (Kd.QM (Kd.Q_far (p := ⟨gb496, 1, none⟩) (Kd.Q_far (p := ⟨gb496, 0, none⟩) (Kd.Q_types HO485.out BK496.out (by decide)) (fun _ hk => hk.2) (.slice Ao14 t491.length co14)) (fun _ hk => hk.2) (.int .i64 t494)) (fun _ h_ => h_.1)) hb); replace HO488 := Aside0.mk (Kd.S_elder' (Kd.SM (Kd.S_far (p := ⟨gb496, 1, none⟩) (Kd.S_far (p := ⟨gb496, 0, none⟩) (Kd.S_types HO488.out BK496.out (by decide)) (fun _ hk => hk.2) (.slice Ao14 t491.length co14)) (fun _ hk => hk.2) (.int .i64 t494)) (fun _ h_ => h_.1)) (Kd.S_base ho0) hb); replace HO493 := Aside0.mk (Kd.S_elder' (Kd.SM (Kd.S_far (p := ⟨gb496, 1, none⟩) (Kd.S_far (p := ⟨gb496, 0, none⟩) (Kd.S_types HO493.out BK496.out (by decide)) (fun _ hk => hk.2) (.slice Ao14 t491.length co14)) (fun _ hk => hk.2) (.int .i64 t494)) (fun _ h_ => h_.1)) (Kd.S_base ho0) hb); replace BK490 := Aside0.mk (blk_below (g := gb490) (o := .cells #[.slice Ao9 t486.length co9, .int .i64 t489] 27 (0, 0)) (by (with_reducible repeat (first | refine blk_drewN ?_ _ | refine blk_drew ?_ | refine blk_alloc ?_ _)); refine blk_far ?_ NB490_496.out _; (with_reducible repeat (first | refine blk_drewN ?_ _ | refine blk_drew ?_ | refine blk_alloc ?_ _)); refine blk_far ?_ NB490_496.out _; (with_reducible repeat (first | refine blk_drewN ?_ _ | refine blk_drew ?_ | refine blk_alloc ?_ _)); exact BK490.out) hb); replace BK496 := Aside0.mk (blk_below (g := gb496) (o := .cells #[.slice Ao14 t491.length co14, .int .i64 t494] 27 (0, 0)) (by (with_reducible repeat (first | refine blk_drewN ?_ _ | refine blk_drew ?_ | refine blk_alloc ?_ _)); refine blk_put (cs := #[.slice Ao14 t491.length co14, .int .i64 0]) ?_ 1 _ rfl; (with_reducible repeat (first | refine blk_drewN ?_ _ | refine blk_drew ?_ | refine blk_alloc ?_ _)); refine blk_put (cs := #[.slice none 0 0, .int .i64 0]) ?_ 0 _ rfl; (with_reducible repeat (first | refine blk_drewN ?_ _ | refine blk_drew ?_ | refine blk_alloc ?_ _)); exact BK496.out) hb); replace HB := BS hb; (try clear hb); (try clear ho0)) | ((with_reducible refine gate_dst (N := 7) rfl ?_); refine boxE (N := 7) (cs := #[.slice none 0 0, .int .i64 0]) (t := 27) ?_; intro gb502 hg w19 hbox hb; replace HO485 := Aside0.mk (Kd.Q_below (U HO485.out) hb); replace HO488 := Aside0.mk (Kd.S_below (U HO488.out) hb); replace HO493 := Aside0.mk (Kd.S_below (U HO493.out) hb); replace HO499 := Aside0.mk (Kd.S_below (U HO499.out) hb); have BK502 := Aside0.mk (hbox); have GW502 := GS w hg; have GE502 := GS w hg; replace HB := BS hb; have NB490_502 := NL BK490 hg; have NB502_490 := NG BK490 hg; replace BK490 := bB BK490 hb; have NB496_502 := NL BK496 hg; have NB502_496 := NG BK496 hg; replace BK496 := bB BK496 hb; clear hb hbox hg; obtain ⟨Ao20, co20, eo20⟩ := Kd.S_slice HO499.out; subst eo20; have hnb21 := NB502_490.out; have hnc21 := NB490_502.out; have hnb22 := NB502_496.out; have hnc22 := NB496_502.out; obtain ⟨hcz23_0, hcz23_1, hfz23_0, hfz23_1⟩ := bcf BK502))
    (try simp only [Act.put, List.setIfInBounds_toArray, List.set_cons_zero, List.set_cons_succ])
    go_cut [43] (fun v43 wc => ∃ (kq : Nat) (x43_5 : Bool), v43 = .bool x43_5 ∧ Aside0 (laws_FnMoveBack.j0 kq t483 t495 t501 x43_5 t486 t489 t491 t494 t497 t500 = some r) ∧ Aside0 (kq ≤ k) ∧ Aside0 (Kd.Q (Kd.int .i64) 3 wc w.heap.size (fun _ => True) (.slice Ao11 t483.length co11) t483) ∧ Aside0 (Kd.S (Kd.slice 3 (Kd.int .i64)) 23 wc w.heap.size (fun k_ => some k_ ≠ ((.slice Ao11 t483.length co11) : Value).ownBlock ∧ some k_ ≠ ((.slice Ao14 t491.length co14) : Value).ownBlock ∧ some k_ ≠ ((.slice Ao20 t497.length co20) : Value).ownBlock) (.slice Ao9 t486.length co9) t486) ∧ Aside0 (Kd.S (Kd.slice 3 (Kd.int .i64)) 23 wc w.heap.size (fun k_ => some k_ ≠ ((.slice Ao11 t483.length co11) : Value).ownBlock ∧ some k_ ≠ ((.slice Ao9 t486.length co9) : Value).ownBlock ∧ some k_ ≠ ((.slice Ao20 t497.length co20) : Value).ownBlock) (.slice Ao14 t491.length co14) t491) ∧ Aside0 (Kd.S (Kd.slice 3 (Kd.int .i64)) 23 wc w.heap.size (fun k_ => some k_ ≠ ((.slice Ao11 t483.length co11) : Value).ownBlock ∧ some k_ ≠ ((.slice Ao9 t486.length co9) : Value).ownBlock ∧ some k_ ≠ ((.slice Ao14 t491.length co14) : Value).ownBlock) (.slice Ao20 t497.length co20) t497) ∧ Aside0 (wc.heap[gb490]? = some (.cells #[(.slice Ao9 t486.length co9), .int .i64 t489] 27 (0, 0))) ∧ Aside0 (wc.heap[gb496]? = some (.cells #[(.slice Ao14 t491.length co14), .int .i64 t494] 27 (0, 0))) ∧ Aside0 (wc.heap[gb502]? = some (.cells #[(.slice Ao20 t497.length co20), .int .i64 t500] 27 (0, 0))) ∧ Aside0 (Below w.heap.size w wc))
    case first =>
      have H := HC6.out; clear HC6
      by_cases c24 : (t495 != t501) = true
      · rw [if_pos c24] at H
        have c24b0 : (t495 != t501) = true := c24
        (try (have c24b1 : decide (t495 = t501) = false := by simpa using c24))
        (try (have c24b2 : (t495 == t501) = false := by simpa using c24))
        (try (have c24b3 : ¬ (t495 = t501) := by simpa using c24))
        clear c24
        (first | rw [c24b0] | (simp only [i64_w, i32_w]; rw [c24b0]) | skip)
        have H' := Aside0.mk H; clear H
        go_wp2
        go_meet
        case rel => exact ⟨_, (true), sR, H', ⟨oR⟩, ⟨Kd.QM (Kd.Q_far (p := ⟨gb502, 1, none⟩) (Kd.Q_far (p := ⟨gb502, 0, none⟩) (Kd.Q_types HO485.out BK502.out (by decide)) (fun _ hk => hk.2) (.slice Ao20 t497.length co20)) (fun _ hk => hk.2) (.int .i64 t500)) (fun _ hk => trivial)⟩, ⟨Kd.SM (Kd.S_far (p := ⟨gb502, 1, none⟩) (Kd.S_far (p := ⟨gb502, 0, none⟩) (Kd.S_types HO488.out BK502.out (by decide)) (fun _ hk => hk.2) (.slice Ao20 t497.length co20)) (fun _ hk => hk.2) (.int .i64 t500)) (fun _ hk => ⟨hk.1.1.1, ⟨hk.1.1.2, hk.1.2⟩⟩)⟩, ⟨Kd.SM (Kd.S_far (p := ⟨gb502, 1, none⟩) (Kd.S_far (p := ⟨gb502, 0, none⟩) (Kd.S_types HO493.out BK502.out (by decide)) (fun _ hk => hk.2) (.slice Ao20 t497.length co20)) (fun _ hk => hk.2) (.int .i64 t500)) (fun _ hk => ⟨hk.1.1.1.2, ⟨hk.1.1.2, hk.1.2⟩⟩)⟩, ⟨Kd.SM (Kd.S_far (p := ⟨gb502, 1, none⟩) (Kd.S_far (p := ⟨gb502, 0, none⟩) (Kd.S_types HO499.out BK502.out (by decide)) (fun _ hk => hk.2) (.slice Ao20 t497.length co20)) (fun _ hk => hk.2) (.int .i64 t500)) (fun _ hk => ⟨hk.1.1.1.2, ⟨hk.1.1.2, hk.1.2⟩⟩)⟩, ⟨by (with_reducible repeat (first | refine blk_drewN ?_ _ | refine blk_drew ?_ | refine blk_alloc ?_ _)); refine blk_far ?_ NB490_502.out _; (with_reducible repeat (first | refine blk_drewN ?_ _ | refine blk_drew ?_ | refine blk_alloc ?_ _)); refine blk_far ?_ NB490_502.out _; (with_reducible repeat (first | refine blk_drewN ?_ _ | refine blk_drew ?_ | refine blk_alloc ?_ _)); exact BK490.out⟩, ⟨by (with_reducible repeat (first | refine blk_drewN ?_ _ | refine blk_drew ?_ | refine blk_alloc ?_ _)); refine blk_far ?_ NB496_502.out _; (with_reducible repeat (first | refine blk_drewN ?_ _ | refine blk_drew ?_ | refine blk_alloc ?_ _)); refine blk_far ?_ NB496_502.out _; (with_reducible repeat (first | refine blk_drewN ?_ _ | refine blk_drew ?_ | refine blk_alloc ?_ _)); exact BK496.out⟩, ⟨by (with_reducible repeat (first | refine blk_drewN ?_ _ | refine blk_drew ?_ | refine blk_alloc ?_ _)); refine blk_put (cs := #[.slice Ao20 t497.length co20, .int .i64 0]) ?_ 1 _ rfl; (with_reducible repeat (first | refine blk_drewN ?_ _ | refine blk_drew ?_ | refine blk_alloc ?_ _)); refine blk_put (cs := #[.slice none 0 0, .int .i64 0]) ?_ 0 _ rfl; (with_reducible repeat (first | refine blk_drewN ?_ _ | refine blk_drew ?_ | refine blk_alloc ?_ _)); exact BK502.out⟩, ⟨BU⟩⟩
      · rw [if_neg c24] at H
        have c24b0 : (t495 != t501) = false := by simpa using c24
        (try (have c24b1 : decide (t495 = t501) = true := by simpa using c24))
        (try (have c24b2 : (t495 == t501) = true := by simpa using c24))
        clear c24
        (first | rw [c24b0] | (simp only [i64_w, i32_w]; rw [c24b0]) | skip)
        obtain ⟨t503, A25, H⟩ := bnd H
        by_cases c26 : t503 = true
        · subst c26
          replace H := ifT H; have H' := Aside0.mk H; clear H; have hnb27 := NB496_490.out; have hnc27 := NB490_496.out; have hnb28 := NB496_502.out; have hnc28 := NB502_496.out; obtain ⟨hcz29_0, hcz29_1, hfz29_0, hfz29_1⟩ := bcf BK496; have hnb30 := NB502_490.out; have hnc30 := NB490_502.out; obtain ⟨hcz31_0, hcz31_1, hfz31_0, hfz31_1⟩ := bcf BK502
          go_wp2_with (first | (go_at_call 16; (with_reducible refine (laws_sameMove.calls k _ _ t491 t494 _ _ t497 t500 true _ ?side1 ?side2 ?side3 ?side4 A25.out).mono ?_); (case side1 => refine (Kd.S_reads' (e := 23) (base := w.heap.size) (ok := fun k_ => (((True ∧ some k_ ≠ (.slice Ao11 t483.length co11 : Value).ownBlock) ∧ some k_ ≠ (.slice Ao9 t486.length co9 : Value).ownBlock) ∧ some k_ ≠ (.slice Ao20 t497.length co20 : Value).ownBlock)) (n := t491.length) (c := co14) ?_).2.2; exact (Kd.SM (Kd.S_far (p := ⟨gb502, 1, none⟩) (Kd.S_far (p := ⟨gb502, 0, none⟩) (Kd.S_types HO493.out BK502.out (by decide)) (fun _ hk => hk.2) (.slice Ao20 t497.length co20)) (fun _ hk => hk.2) (.int .i64 t500)) (fun _ h_ => h_.1))); (case side2 => exact (Kd.S_reads' HO493.out).2.1); (case side3 => refine (Kd.S_reads' (e := 23) (base := w.heap.size) (ok := fun k_ => (((True ∧ some k_ ≠ (.slice Ao11 t483.length co11 : Value).ownBlock) ∧ some k_ ≠ (.slice Ao9 t486.length co9 : Value).ownBlock) ∧ some k_ ≠ (.slice Ao14 t491.length co14 : Value).ownBlock)) (n := t497.length) (c := co20) ?_).2.2; exact (Kd.SM (Kd.S_far (p := ⟨gb502, 1, none⟩) (Kd.S_far (p := ⟨gb502, 0, none⟩) (Kd.S_types HO499.out BK502.out (by decide)) (fun _ hk => hk.2) (.slice Ao20 t497.length co20)) (fun _ hk => hk.2) (.int .i64 t500)) (fun _ h_ => h_.1))); (case side4 => exact (Kd.S_reads' HO499.out).2.1); rintro e w32 ⟨rfl, hb⟩; replace HO485 := Aside0.mk (Kd.Q_below (Kd.QM (Kd.Q_far (p := ⟨gb502, 1, none⟩) (Kd.Q_far (p := ⟨gb502, 0, none⟩) (Kd.Q_types HO485.out BK502.out (by decide)) (fun _ hk => hk.2) (.slice Ao20 t497.length co20)) (fun _ hk => hk.2) (.int .i64 t500)) (fun _ h_ => h_.1)) hb); replace HO488 := Aside0.mk (Kd.S_below (Kd.SM (Kd.S_far (p := ⟨gb502, 1, none⟩) (Kd.S_far (p := ⟨gb502, 0, none⟩) (Kd.S_types HO488.out BK502.out (by decide)) (fun _ hk => hk.2) (.slice Ao20 t497.length co20)) (fun _ hk => hk.2) (.int .i64 t500)) (fun _ h_ => h_.1)) hb); replace HO493 := Aside0.mk (Kd.S_below (Kd.SM (Kd.S_far (p := ⟨gb502, 1, none⟩) (Kd.S_far (p := ⟨gb502, 0, none⟩) (Kd.S_types HO493.out BK502.out (by decide)) (fun _ hk => hk.2) (.slice Ao20 t497.length co20)) (fun _ hk => hk.2) (.int .i64 t500)) (fun _ h_ => h_.1)) hb); replace HO499 := Aside0.mk (Kd.S_below (Kd.SM (Kd.S_far (p := ⟨gb502, 1, none⟩) (Kd.S_far (p := ⟨gb502, 0, none⟩) (Kd.S_types HO499.out BK502.out (by decide)) (fun _ hk => hk.2) (.slice Ao20 t497.length co20)) (fun _ hk => hk.2) (.int .i64 t500)) (fun _ h_ => h_.1)) hb); replace BK490 := Aside0.mk (blk_below (g := gb490) (o := .cells #[.slice Ao9 t486.length co9, .int .i64 t489] 27 (0, 0)) (by (with_reducible repeat (first | refine blk_drewN ?_ _ | refine blk_drew ?_ | refine blk_alloc ?_ _)); refine blk_far ?_ NB490_502.out _; (with_reducible repeat (first | refine blk_drewN ?_ _ | refine blk_drew ?_ | refine blk_alloc ?_ _)); refine blk_far ?_ NB490_502.out _; (with_reducible repeat (first | refine blk_drewN ?_ _ | refine blk_drew ?_ | refine blk_alloc ?_ _)); exact BK490.out) hb); replace BK496 := Aside0.mk (blk_below (g := gb496) (o := .cells #[.slice Ao14 t491.length co14, .int .i64 t494] 27 (0, 0)) (by (with_reducible repeat (first | refine blk_drewN ?_ _ | refine blk_drew ?_ | refine blk_alloc ?_ _)); refine blk_far ?_ NB496_502.out _; (with_reducible repeat (first | refine blk_drewN ?_ _ | refine blk_drew ?_ | refine blk_alloc ?_ _)); refine blk_far ?_ NB496_502.out _; (with_reducible repeat (first | refine blk_drewN ?_ _ | refine blk_drew ?_ | refine blk_alloc ?_ _)); exact BK496.out) hb); replace BK502 := Aside0.mk (blk_below (g := gb502) (o := .cells #[.slice Ao20 t497.length co20, .int .i64 t500] 27 (0, 0)) (by (with_reducible repeat (first | refine blk_drewN ?_ _ | refine blk_drew ?_ | refine blk_alloc ?_ _)); refine blk_put (cs := #[.slice Ao20 t497.length co20, .int .i64 0]) ?_ 1 _ rfl; (with_reducible repeat (first | refine blk_drewN ?_ _ | refine blk_drew ?_ | refine blk_alloc ?_ _)); refine blk_put (cs := #[.slice none 0 0, .int .i64 0]) ?_ 0 _ rfl; (with_reducible repeat (first | refine blk_drewN ?_ _ | refine blk_drew ?_ | refine blk_alloc ?_ _)); exact BK502.out) hb); replace HB := BS hb; (try clear hb)))
          go_meet
          case rel => exact ⟨_, (!t495), sR, H', ⟨oR⟩, ⟨U HO485.out⟩, ⟨Kd.SM HO488.out (fun _ hk => ⟨hk.1.1, ⟨hk.1.2, hk.2⟩⟩)⟩, ⟨Kd.SM HO493.out (fun _ hk => ⟨hk.1.1.2, ⟨hk.1.2, hk.2⟩⟩)⟩, ⟨Kd.SM HO499.out (fun _ hk => ⟨hk.1.1.2, ⟨hk.1.2, hk.2⟩⟩)⟩, ⟨U BK490.out⟩, ⟨U BK496.out⟩, ⟨U BK502.out⟩, ⟨BU⟩⟩
        · replace c26 := Bool.eq_false_iff.mpr c26
          subst c26; replace H := ifF H; have H' := Aside0.mk H; clear H; have hnb33 := NB496_490.out; have hnc33 := NB490_496.out; have hnb34 := NB496_502.out; have hnc34 := NB502_496.out; obtain ⟨hcz35_0, hcz35_1, hfz35_0, hfz35_1⟩ := bcf BK496; have hnb36 := NB502_490.out; have hnc36 := NB490_502.out; obtain ⟨hcz37_0, hcz37_1, hfz37_0, hfz37_1⟩ := bcf BK502
          go_wp2_with (first | (go_at_call 16; (with_reducible refine (laws_sameMove.calls k _ _ t491 t494 _ _ t497 t500 false _ ?side1 ?side2 ?side3 ?side4 A25.out).mono ?_); (case side1 => refine (Kd.S_reads' (e := 23) (base := w.heap.size) (ok := fun k_ => (((True ∧ some k_ ≠ (.slice Ao11 t483.length co11 : Value).ownBlock) ∧ some k_ ≠ (.slice Ao9 t486.length co9 : Value).ownBlock) ∧ some k_ ≠ (.slice Ao20 t497.length co20 : Value).ownBlock)) (n := t491.length) (c := co14) ?_).2.2; exact (Kd.SM (Kd.S_far (p := ⟨gb502, 1, none⟩) (Kd.S_far (p := ⟨gb502, 0, none⟩) (Kd.S_types HO493.out BK502.out (by decide)) (fun _ hk => hk.2) (.slice Ao20 t497.length co20)) (fun _ hk => hk.2) (.int .i64 t500)) (fun _ h_ => h_.1))); (case side2 => exact (Kd.S_reads' HO493.out).2.1); (case side3 => refine (Kd.S_reads' (e := 23) (base := w.heap.size) (ok := fun k_ => (((True ∧ some k_ ≠ (.slice Ao11 t483.length co11 : Value).ownBlock) ∧ some k_ ≠ (.slice Ao9 t486.length co9 : Value).ownBlock) ∧ some k_ ≠ (.slice Ao14 t491.length co14 : Value).ownBlock)) (n := t497.length) (c := co20) ?_).2.2; exact (Kd.SM (Kd.S_far (p := ⟨gb502, 1, none⟩) (Kd.S_far (p := ⟨gb502, 0, none⟩) (Kd.S_types HO499.out BK502.out (by decide)) (fun _ hk => hk.2) (.slice Ao20 t497.length co20)) (fun _ hk => hk.2) (.int .i64 t500)) (fun _ h_ => h_.1))); (case side4 => exact (Kd.S_reads' HO499.out).2.1); rintro e w38 ⟨rfl, hb⟩; replace HO485 := Aside0.mk (Kd.Q_below (Kd.QM (Kd.Q_far (p := ⟨gb502, 1, none⟩) (Kd.Q_far (p := ⟨gb502, 0, none⟩) (Kd.Q_types HO485.out BK502.out (by decide)) (fun _ hk => hk.2) (.slice Ao20 t497.length co20)) (fun _ hk => hk.2) (.int .i64 t500)) (fun _ h_ => h_.1)) hb); replace HO488 := Aside0.mk (Kd.S_below (Kd.SM (Kd.S_far (p := ⟨gb502, 1, none⟩) (Kd.S_far (p := ⟨gb502, 0, none⟩) (Kd.S_types HO488.out BK502.out (by decide)) (fun _ hk => hk.2) (.slice Ao20 t497.length co20)) (fun _ hk => hk.2) (.int .i64 t500)) (fun _ h_ => h_.1)) hb); replace HO493 := Aside0.mk (Kd.S_below (Kd.SM (Kd.S_far (p := ⟨gb502, 1, none⟩) (Kd.S_far (p := ⟨gb502, 0, none⟩) (Kd.S_types HO493.out BK502.out (by decide)) (fun _ hk => hk.2) (.slice Ao20 t497.length co20)) (fun _ hk => hk.2) (.int .i64 t500)) (fun _ h_ => h_.1)) hb); replace HO499 := Aside0.mk (Kd.S_below (Kd.SM (Kd.S_far (p := ⟨gb502, 1, none⟩) (Kd.S_far (p := ⟨gb502, 0, none⟩) (Kd.S_types HO499.out BK502.out (by decide)) (fun _ hk => hk.2) (.slice Ao20 t497.length co20)) (fun _ hk => hk.2) (.int .i64 t500)) (fun _ h_ => h_.1)) hb); replace BK490 := Aside0.mk (blk_below (g := gb490) (o := .cells #[.slice Ao9 t486.length co9, .int .i64 t489] 27 (0, 0)) (by (with_reducible repeat (first | refine blk_drewN ?_ _ | refine blk_drew ?_ | refine blk_alloc ?_ _)); refine blk_far ?_ NB490_502.out _; (with_reducible repeat (first | refine blk_drewN ?_ _ | refine blk_drew ?_ | refine blk_alloc ?_ _)); refine blk_far ?_ NB490_502.out _; (with_reducible repeat (first | refine blk_drewN ?_ _ | refine blk_drew ?_ | refine blk_alloc ?_ _)); exact BK490.out) hb); replace BK496 := Aside0.mk (blk_below (g := gb496) (o := .cells #[.slice Ao14 t491.length co14, .int .i64 t494] 27 (0, 0)) (by (with_reducible repeat (first | refine blk_drewN ?_ _ | refine blk_drew ?_ | refine blk_alloc ?_ _)); refine blk_far ?_ NB496_502.out _; (with_reducible repeat (first | refine blk_drewN ?_ _ | refine blk_drew ?_ | refine blk_alloc ?_ _)); refine blk_far ?_ NB496_502.out _; (with_reducible repeat (first | refine blk_drewN ?_ _ | refine blk_drew ?_ | refine blk_alloc ?_ _)); exact BK496.out) hb); replace BK502 := Aside0.mk (blk_below (g := gb502) (o := .cells #[.slice Ao20 t497.length co20, .int .i64 t500] 27 (0, 0)) (by (with_reducible repeat (first | refine blk_drewN ?_ _ | refine blk_drew ?_ | refine blk_alloc ?_ _)); refine blk_put (cs := #[.slice Ao20 t497.length co20, .int .i64 0]) ?_ 1 _ rfl; (with_reducible repeat (first | refine blk_drewN ?_ _ | refine blk_drew ?_ | refine blk_alloc ?_ _)); refine blk_put (cs := #[.slice none 0 0, .int .i64 0]) ?_ 0 _ rfl; (with_reducible repeat (first | refine blk_drewN ?_ _ | refine blk_drew ?_ | refine blk_alloc ?_ _)); exact BK502.out) hb); replace HB := BS hb; (try clear hb)))
          go_meet
          case rel => exact ⟨_, (true), sR, H', ⟨oR⟩, ⟨U HO485.out⟩, ⟨Kd.SM HO488.out (fun _ hk => ⟨hk.1.1, ⟨hk.1.2, hk.2⟩⟩)⟩, ⟨Kd.SM HO493.out (fun _ hk => ⟨hk.1.1.2, ⟨hk.1.2, hk.2⟩⟩)⟩, ⟨Kd.SM HO499.out (fun _ hk => ⟨hk.1.1.2, ⟨hk.1.2, hk.2⟩⟩)⟩, ⟨U BK490.out⟩, ⟨U BK496.out⟩, ⟨U BK502.out⟩, ⟨BU⟩⟩
    case rest =>
      clear HC6; (try clear c2); (try clear c2b0); (try clear c2b1); (try clear hcz10_0); (try clear hcz10_1); (try clear hcz16_0); (try clear hcz16_1); (try clear hcz17_0); (try clear hcz17_1); (try clear hcz23_0); (try clear hcz23_1); (try clear hfz10_0); (try clear hfz10_1); (try clear hfz16_0); (try clear hfz16_1); (try clear hfz17_0); (try clear hfz17_1); (try clear hfz23_0); (try clear hfz23_1); obtain ⟨kq, x43_5, rfl, HA, HJ5, HO_3, HO_491000, HO_497000, HO_503000, BK490, BK496, BK502, HB⟩ := hcut; cases kq with
      | zero => exact absurd HA.out (by simp [laws_FnMoveBack.j0])
      | succ kj5 =>
        have H := HA.out; clear HA; simp only [laws_FnMoveBack.j0] at H
        by_cases c39 : x43_5 = true
        · subst c39
          replace H := ifT H
          by_cases c40 : (t495 == t501) = true
          · rw [if_pos c40] at H
            have c40b0 : (t495 == t501) = true := c40
            (try (have c40b1 : decide (t495 = t501) = true := by simpa using c40))
            (try (have c40b2 : (t495 == t501) = true := by simpa using c40))
            clear c40; obtain ⟨t504, A41, H⟩ := bnd H; obtain rfl := Option.some.inj H; have hnb42 := NB496_490.out; have hnc42 := NB490_496.out; have hnb43 := NB496_502.out; have hnc43 := NB502_496.out; obtain ⟨hcz44_0, hcz44_1, hfz44_0, hfz44_1⟩ := bcf BK496; have hnb45 := NB502_490.out; have hnc45 := NB490_502.out; obtain ⟨hcz46_0, hcz46_1, hfz46_0, hfz46_1⟩ := bcf BK502
            go_wp2_with (first | (go_at_call 16; (with_reducible refine (laws_sameMove.calls kj5 _ _ t491 t494 _ _ t497 t500 t504 _ ?side1 ?side2 ?side3 ?side4 A41.out).mono ?_); (case side1 => exact U ((Kd.S_reads' HO_497000.out).2.2)); (case side2 => exact (Kd.S_reads' HO_497000.out).2.1); (case side3 => exact U ((Kd.S_reads' HO_503000.out).2.2)); (case side4 => exact (Kd.S_reads' HO_503000.out).2.1); rintro e w47 ⟨rfl, hb⟩; replace HO_3 := Aside0.mk (Kd.Q_below (U HO_3.out) hb); replace HO_491000 := Aside0.mk (Kd.S_below (U HO_491000.out) hb); replace HO_497000 := Aside0.mk (Kd.S_below (U HO_497000.out) hb); replace HO_503000 := Aside0.mk (Kd.S_below (U HO_503000.out) hb); replace BK490 := bB BK490 hb; replace BK496 := bB BK496 hb; replace BK502 := bB BK502 hb; replace HB := BS hb; (try clear hb)))
            go_ret
            exact ⟨eR, BU⟩
          · rw [if_neg c40] at H
            exact absurd H (by simp)
        · replace c39 := Bool.eq_false_iff.mpr c39
          subst c39; replace H := ifF H; obtain ⟨⟨t505, t508, t509⟩, A48, H⟩ := bnd H
          replace H : (if t509 = true then ((laws_sameMove.f kj5 t505 t508 t486 t489).bind fun t511 => (if t511 = true then ((impl_MoveSign.f kj5 t483 t491 t494).bind fun t512 => ((impl_MoveSign.f kj5 t483 t486 t489).bind fun t513 => (some (t512 == t513)))) else (none))) else ((impl_MoveSign.f kj5 t483 t491 t494).bind fun t514 => ((impl_MoveSign.f kj5 t483 t486 t489).bind fun t515 => (some (t514 == t515))))) = some r := H
          by_cases c49 : t509 = true
          · subst c49
            replace H := ifT H; obtain ⟨t511, A50, H⟩ := bnd H
            by_cases c51 : t511 = true
            · subst c51
              replace H := ifT H; obtain ⟨t512, A52, H⟩ := bnd H; obtain ⟨t513, A53, H⟩ := bnd H; obtain rfl := Option.some.inj H; have hnb54 := NB496_490.out; have hnc54 := NB490_496.out; have hnb55 := NB496_502.out; have hnc55 := NB502_496.out; obtain ⟨hcz56_0, hcz56_1, hfz56_0, hfz56_1⟩ := bcf BK496
              try go_wp2_with (first | ((with_reducible refine gate_callee (f := 19) rfl ?_); refine goesK (some 55) Try.func19 #[.slice Ao11 t483.length co11, .agg #[.slice Ao14 t491.length co14, .int .i64 t494]] ?_; (with_reducible refine (impl_MoveBack.calls kj5 _ _ t483 _ _ t491 t494 t505 t508 true _ ?side1 ?side2 ?side3 ?side4 A48.out).mono ?_); (case side1 => exact U ((Kd.Q_reads' HO_3.out).2.2)); (case side2 => exact (Kd.Q_reads' HO_3.out).2.1); (case side3 => exact U ((Kd.S_reads' HO_497000.out).2.2)); (case side4 => exact (Kd.S_reads' HO_497000.out).2.1); rintro e w57 ⟨v506, rfl, ho0, hb⟩; refine ⟨_, rfl, ?_⟩; have HO507 := Aside0.mk (Kd.S_lower (Kd.S_new' (Kd.S_new' (Kd.S_new' (Kd.S_new' ho0 (Kd.Q_lt (U HO_3.out))) (Kd.S_lt (U HO_491000.out))) (Kd.S_lt (U HO_497000.out))) (Kd.S_lt (U HO_503000.out))) (below_size BU)); replace HO_3 := Aside0.mk (Kd.Q_below (U HO_3.out) hb); replace HO_491000 := Aside0.mk (Kd.S_elder' (U HO_491000.out) (Kd.S_base ho0) hb); replace HO_497000 := Aside0.mk (Kd.S_elder' (U HO_497000.out) (Kd.S_base ho0) hb); replace HO_503000 := Aside0.mk (Kd.S_elder' (U HO_503000.out) (Kd.S_base ho0) hb); replace BK490 := bB BK490 hb; replace BK496 := bB BK496 hb; replace BK502 := bB BK502 hb; replace HB := BS hb; (try clear hb); (try clear ho0)) | ((with_reducible refine gate_dst (N := 9) rfl ?_); refine boxE (N := 9) (cs := #[.slice none 0 0, .int .i64 0]) (t := 27) ?_; intro gb510 hg w58 hbox hb; replace HO_3 := Aside0.mk (Kd.Q_below (U HO_3.out) hb); replace HO_491000 := Aside0.mk (Kd.S_below (U HO_491000.out) hb); replace HO_497000 := Aside0.mk (Kd.S_below (U HO_497000.out) hb); replace HO_503000 := Aside0.mk (Kd.S_below (U HO_503000.out) hb); replace HO507 := Aside0.mk (Kd.S_below (U HO507.out) hb); have BK510 := Aside0.mk (hbox); have GW510 := GS w hg; have GE510 := GS w hg; replace HB := BS hb; have NB490_510 := NL BK490 hg; have NB510_490 := NG BK490 hg; replace BK490 := bB BK490 hb; have NB496_510 := NL BK496 hg; have NB510_496 := NG BK496 hg; replace BK496 := bB BK496 hb; have NB502_510 := NL BK502 hg; have NB510_502 := NG BK502 hg; replace BK502 := bB BK502 hb; clear hb hbox hg; obtain ⟨Ao59, co59, eo59⟩ := Kd.S_slice HO507.out; subst eo59; have hnb60 := NB510_490.out; have hnc60 := NB490_510.out; have hnb61 := NB510_496.out; have hnc61 := NB496_510.out; have hnb62 := NB510_502.out; have hnc62 := NB502_510.out; obtain ⟨hcz63_0, hcz63_1, hfz63_0, hfz63_1⟩ := bcf BK510))
              have n0_ : Aside0 (Kd.Q (Kd.int .i64) 3 ((w58.setCell ⟨gb510, 0, none⟩ (.slice Ao59 t505.length co59)).setCell ⟨gb510, 1, none⟩ (.int .i64 t508)) w.heap.size (fun _ => True) (.slice Ao11 t483.length co11) t483) := ⟨Kd.QM (Kd.Q_far (p := ⟨gb510, 1, none⟩) (Kd.Q_far (p := ⟨gb510, 0, none⟩) (Kd.Q_types HO_3.out BK510.out (by decide)) (fun _ hk => hk.2) (.slice Ao59 t505.length co59)) (fun _ hk => hk.2) (.int .i64 t508)) (fun _ hk => trivial)⟩; have n1_ : Aside0 (Kd.S (Kd.slice 3 (Kd.int .i64)) 23 ((w58.setCell ⟨gb510, 0, none⟩ (.slice Ao59 t505.length co59)).setCell ⟨gb510, 1, none⟩ (.int .i64 t508)) w.heap.size (fun k_ => some k_ ≠ (.slice Ao11 t483.length co11 : Value).ownBlock ∧ some k_ ≠ (.slice Ao14 t491.length co14 : Value).ownBlock ∧ some k_ ≠ (.slice Ao20 t497.length co20 : Value).ownBlock ∧ some k_ ≠ (.slice Ao59 t505.length co59 : Value).ownBlock) (.slice Ao9 t486.length co9) t486) := ⟨Kd.SM (Kd.S_far (p := ⟨gb510, 1, none⟩) (Kd.S_far (p := ⟨gb510, 0, none⟩) (Kd.S_types HO_491000.out BK510.out (by decide)) (fun _ hk => hk.2) (.slice Ao59 t505.length co59)) (fun _ hk => hk.2) (.int .i64 t508)) (fun _ hk => ⟨hk.1.1.1, ⟨hk.1.1.2.1, ⟨hk.1.1.2.2, hk.1.2⟩⟩⟩)⟩; have n2_ : Aside0 (Kd.S (Kd.slice 3 (Kd.int .i64)) 23 ((w58.setCell ⟨gb510, 0, none⟩ (.slice Ao59 t505.length co59)).setCell ⟨gb510, 1, none⟩ (.int .i64 t508)) w.heap.size (fun k_ => some k_ ≠ (.slice Ao11 t483.length co11 : Value).ownBlock ∧ some k_ ≠ (.slice Ao9 t486.length co9 : Value).ownBlock ∧ some k_ ≠ (.slice Ao20 t497.length co20 : Value).ownBlock ∧ some k_ ≠ (.slice Ao59 t505.length co59 : Value).ownBlock) (.slice Ao14 t491.length co14) t491) := ⟨Kd.SM (Kd.S_far (p := ⟨gb510, 1, none⟩) (Kd.S_far (p := ⟨gb510, 0, none⟩) (Kd.S_types HO_497000.out BK510.out (by decide)) (fun _ hk => hk.2) (.slice Ao59 t505.length co59)) (fun _ hk => hk.2) (.int .i64 t508)) (fun _ hk => ⟨hk.1.1.1, ⟨hk.1.1.2.1, ⟨hk.1.1.2.2, hk.1.2⟩⟩⟩)⟩; have n3_ : Aside0 (Kd.S (Kd.slice 3 (Kd.int .i64)) 23 ((w58.setCell ⟨gb510, 0, none⟩ (.slice Ao59 t505.length co59)).setCell ⟨gb510, 1, none⟩ (.int .i64 t508)) w.heap.size (fun k_ => some k_ ≠ (.slice Ao11 t483.length co11 : Value).ownBlock ∧ some k_ ≠ (.slice Ao9 t486.length co9 : Value).ownBlock ∧ some k_ ≠ (.slice Ao14 t491.length co14 : Value).ownBlock ∧ some k_ ≠ (.slice Ao59 t505.length co59 : Value).ownBlock) (.slice Ao20 t497.length co20) t497) := ⟨Kd.SM (Kd.S_far (p := ⟨gb510, 1, none⟩) (Kd.S_far (p := ⟨gb510, 0, none⟩) (Kd.S_types HO_503000.out BK510.out (by decide)) (fun _ hk => hk.2) (.slice Ao59 t505.length co59)) (fun _ hk => hk.2) (.int .i64 t508)) (fun _ hk => ⟨hk.1.1.1, ⟨hk.1.1.2.1, ⟨hk.1.1.2.2, hk.1.2⟩⟩⟩)⟩; have n4_ : Aside0 (Kd.S (Kd.slice 3 (Kd.int .i64)) 23 ((w58.setCell ⟨gb510, 0, none⟩ (.slice Ao59 t505.length co59)).setCell ⟨gb510, 1, none⟩ (.int .i64 t508)) w.heap.size (fun k_ => some k_ ≠ (.slice Ao11 t483.length co11 : Value).ownBlock ∧ some k_ ≠ (.slice Ao9 t486.length co9 : Value).ownBlock ∧ some k_ ≠ (.slice Ao14 t491.length co14 : Value).ownBlock ∧ some k_ ≠ (.slice Ao20 t497.length co20 : Value).ownBlock) (.slice Ao59 t505.length co59) t505) := ⟨Kd.SM (Kd.S_far (p := ⟨gb510, 1, none⟩) (Kd.S_far (p := ⟨gb510, 0, none⟩) (Kd.S_types HO507.out BK510.out (by decide)) (fun _ hk => hk.2) (.slice Ao59 t505.length co59)) (fun _ hk => hk.2) (.int .i64 t508)) (fun _ hk => ⟨hk.1.1.1.1.2, ⟨hk.1.1.1.2, ⟨hk.1.1.2, hk.1.2⟩⟩⟩)⟩
              have n5_ : Aside0 (((w58.setCell ⟨gb510, 0, none⟩ (.slice Ao59 t505.length co59)).setCell ⟨gb510, 1, none⟩ (.int .i64 t508)).heap[gb490]? = some (.cells #[.slice Ao9 t486.length co9, .int .i64 t489] 27 (0, 0))) := ⟨by (with_reducible repeat (first | refine blk_drewN ?_ _ | refine blk_drew ?_ | refine blk_alloc ?_ _)); refine blk_far ?_ NB490_510.out _; (with_reducible repeat (first | refine blk_drewN ?_ _ | refine blk_drew ?_ | refine blk_alloc ?_ _)); refine blk_far ?_ NB490_510.out _; (with_reducible repeat (first | refine blk_drewN ?_ _ | refine blk_drew ?_ | refine blk_alloc ?_ _)); exact BK490.out⟩
              have n6_ : Aside0 (((w58.setCell ⟨gb510, 0, none⟩ (.slice Ao59 t505.length co59)).setCell ⟨gb510, 1, none⟩ (.int .i64 t508)).heap[gb496]? = some (.cells #[.slice Ao14 t491.length co14, .int .i64 t494] 27 (0, 0))) := ⟨by (with_reducible repeat (first | refine blk_drewN ?_ _ | refine blk_drew ?_ | refine blk_alloc ?_ _)); refine blk_far ?_ NB496_510.out _; (with_reducible repeat (first | refine blk_drewN ?_ _ | refine blk_drew ?_ | refine blk_alloc ?_ _)); refine blk_far ?_ NB496_510.out _; (with_reducible repeat (first | refine blk_drewN ?_ _ | refine blk_drew ?_ | refine blk_alloc ?_ _)); exact BK496.out⟩
              have n7_ : Aside0 (((w58.setCell ⟨gb510, 0, none⟩ (.slice Ao59 t505.length co59)).setCell ⟨gb510, 1, none⟩ (.int .i64 t508)).heap[gb502]? = some (.cells #[.slice Ao20 t497.length co20, .int .i64 t500] 27 (0, 0))) := ⟨by (with_reducible repeat (first | refine blk_drewN ?_ _ | refine blk_drew ?_ | refine blk_alloc ?_ _)); refine blk_far ?_ NB502_510.out _; (with_reducible repeat (first | refine blk_drewN ?_ _ | refine blk_drew ?_ | refine blk_alloc ?_ _)); refine blk_far ?_ NB502_510.out _; (with_reducible repeat (first | refine blk_drewN ?_ _ | refine blk_drew ?_ | refine blk_alloc ?_ _)); exact BK502.out⟩
              have n8_ : Aside0 (((w58.setCell ⟨gb510, 0, none⟩ (.slice Ao59 t505.length co59)).setCell ⟨gb510, 1, none⟩ (.int .i64 t508)).heap[gb510]? = some (.cells #[.slice Ao59 t505.length co59, .int .i64 t508] 27 (0, 0))) := ⟨by (with_reducible repeat (first | refine blk_drewN ?_ _ | refine blk_drew ?_ | refine blk_alloc ?_ _)); refine blk_put (cs := #[.slice Ao59 t505.length co59, .int .i64 0]) ?_ 1 _ rfl; (with_reducible repeat (first | refine blk_drewN ?_ _ | refine blk_drew ?_ | refine blk_alloc ?_ _)); refine blk_put (cs := #[.slice none 0 0, .int .i64 0]) ?_ 0 _ rfl; (with_reducible repeat (first | refine blk_drewN ?_ _ | refine blk_drew ?_ | refine blk_alloc ?_ _)); exact BK510.out⟩
              have n9_ : Aside0 (Below w.heap.size w ((w58.setCell ⟨gb510, 0, none⟩ (.slice Ao59 t505.length co59)).setCell ⟨gb510, 1, none⟩ (.int .i64 t508))) := ⟨BU⟩; (try clear HO_3); (try clear HO_491000); (try clear HO_497000); (try clear HO_503000); (try clear HO507); (try clear BK490); (try clear BK496); (try clear BK502); (try clear BK510)
              (try try clear HB)
              generalize ((w58.setCell ⟨gb510, 0, none⟩ (.slice Ao59 t505.length co59)).setCell ⟨gb510, 1, none⟩ (.int .i64 t508)) = w64 at n0_ n1_ n2_ n3_ n4_ n5_ n6_ n7_ n8_ n9_ ⊢; have HO_3 := n0_; have HO_491000 := n1_; have HO_497000 := n2_; have HO_503000 := n3_; have HO507 := n4_; have BK490 := n5_; have BK496 := n6_; have BK502 := n7_; have BK510 := n8_; have HB := n9_; clear n0_ n1_ n2_ n3_ n4_ n5_ n6_ n7_ n8_ n9_; replace HO_3 := Aside0.mk (Kd.Q_drew HO_3.out); replace HO_491000 := Aside0.mk (Kd.S_drew HO_491000.out); replace HO_497000 := Aside0.mk (Kd.S_drew HO_497000.out); replace HO_503000 := Aside0.mk (Kd.S_drew HO_503000.out); replace HO507 := Aside0.mk (Kd.S_drew HO507.out); replace BK490 := Aside0.mk (blk_drew BK490.out); replace BK496 := Aside0.mk (blk_drew BK496.out); replace BK502 := Aside0.mk (blk_drew BK502.out); replace BK510 := Aside0.mk (blk_drew BK510.out); replace HB := Aside0.mk (below_drew1 HB.out)
              refine start_ (n := 17) (S := fun w' => w'.cell? ⟨gb510, 0, none⟩ = some (.slice Ao59 t505.length co59) ∧ w'.cell? ⟨gb510, 1, none⟩ = some (.int .i64 t508) ∧ w'.cell? ⟨gb490, 0, none⟩ = some (.slice Ao9 t486.length co9) ∧ w'.cell? ⟨gb490, 1, none⟩ = some (.int .i64 t489) ∧ w'.cell? ⟨gb496, 0, none⟩ = some (.slice Ao14 t491.length co14) ∧ w'.cell? ⟨gb496, 1, none⟩ = some (.int .i64 t494)) (ds := []) #[false, false, false, false, false, false, false, false, false, false, false, false, false, false, false, false, false] (by kernel_rfl) rfl rfl ⟨(blk_cell BK510.out 0).trans rfl, (blk_cell BK510.out 1).trans rfl, (blk_cell BK490.out 0).trans rfl, (blk_cell BK490.out 1).trans rfl, (blk_cell BK496.out 0).trans rfl, (blk_cell BK496.out 1).trans rfl⟩ (fun hHeld => ?_); refine with_tabW laws_FnMoveBack.tab9 laws_FnMoveBack.bits9 (fun HT_ HW_ => ?_)
              generalize w64.drew = w65 at HO_3 HO_491000 HO_497000 HO_503000 HO507 BK490 BK496 BK502 BK510 HB hHeld ⊢
              refine pure_ (i := 0) (N := some 58) (v := ?_) (a' := ?_) #[true, false, false, false, false, false, false, false, false, false, false, false, false, false, false, false, false] rfl rfl (any_of HT_.out (by kernel_rfl)) (fun _ _ _ h => h) (Or.inl ⟨by rfl, ?_⟩) ?_ ?_
              rotate_left
              · intro w'
                go_simp
                with_reducible rfl
              rotate_left
              · simp only [Act.put, List.setIfInBounds_toArray, List.set_cons_zero, List.set_cons_succ, i64_w, i32_w]
                rfl
              refine pure_ (i := 1) (N := some 59) (v := ?_) (a' := ?_) #[true, true, false, false, false, false, false, false, false, false, false, false, false, false, false, false, false] rfl rfl (any_of HT_.out (by kernel_rfl)) (fun _ _ _ h => h) (Or.inl ⟨by rfl, ?_⟩) ?_ ?_
              rotate_left
              · intro w'
                go_simp
                with_reducible rfl
              rotate_left
              · simp only [Act.put, List.setIfInBounds_toArray, List.set_cons_zero, List.set_cons_succ, i64_w, i32_w]
                rfl
              refine pure_ (i := 2) (N := some 60) (v := ?_) (a' := ?_) #[true, true, true, false, false, false, false, false, false, false, false, false, false, false, false, false, false] rfl rfl (any_of HT_.out (by kernel_rfl)) (fun _ _ _ h => h) (Or.inl ⟨by rfl, ?_⟩) ?_ ?_
              rotate_left
              · intro w'
                go_simp
                with_reducible rfl
              rotate_left
              · simp only [Act.put, List.setIfInBounds_toArray, List.set_cons_zero, List.set_cons_succ, i64_w, i32_w]
                rfl
              refine take_ (i := 3) (N := some 61) (v := ?_) (a' := ?_) #[true, true, true, true, false, false, false, false, false, false, false, false, false, false, false, false, false] rfl rfl (take_ofW HT_.out HW_.out (by kernel_rfl)) (fun _ _ _ h => h) (Or.inl ⟨by rfl, ?_⟩) hHeld ?_ ?_
              rotate_left
              · rintro w' ⟨s0, s1, s2, s3, s4, s5⟩
                go_simp
                with_reducible rfl
              rotate_left
              · simp only [Act.put, List.setIfInBounds_toArray, List.set_cons_zero, List.set_cons_succ, i64_w, i32_w]
                rfl
              refine take_ (i := 4) (N := some 62) (v := ?_) (a' := ?_) #[true, true, true, true, true, false, false, false, false, false, false, false, false, false, false, false, false] rfl rfl (take_ofW HT_.out HW_.out (by kernel_rfl)) (fun _ _ _ h => h) (Or.inl ⟨by rfl, ?_⟩) hHeld ?_ ?_
              rotate_left
              · rintro w' ⟨s0, s1, s2, s3, s4, s5⟩
                go_simp
                with_reducible rfl
              rotate_left
              · simp only [Act.put, List.setIfInBounds_toArray, List.set_cons_zero, List.set_cons_succ, i64_w, i32_w]
                rfl
              refine one_ (i := 5) (N := some 63) #[true, true, true, true, true, true, false, false, false, false, false, false, false, false, false, false, false] rfl rfl (one_of HT_.out (by kernel_rfl)) (by decide) (fun K hK => ?_)
              refine goes_ Try.func16 (by kernel_rfl) rfl #[.agg #[.slice Ao59 t505.length co59, .int .i64 t508], .agg #[.slice Ao9 t486.length co9, .int .i64 t489]] (by rfl) rfl rfl (by (try simp only [List.map_toArray, List.map_cons, List.map_nil]); first | done | rfl | (simp only [List.length_drop, List.length_take]; rfl)) ?_
              with_reducible refine (laws_sameMove.calls kj5 _ _ t505 t508 _ _ t486 t489 true _ ?side1 ?side2 ?side3 ?side4 A50.out).mono ?_
              (case side1 => exact U ((Kd.S_reads' HO507.out).2.2))
              (case side2 => exact (Kd.S_reads' HO507.out).2.1)
              (case side3 => exact U ((Kd.S_reads' HO_491000.out).2.2))
              (case side4 => exact (Kd.S_reads' HO_491000.out).2.1)
              rintro e w66 ⟨rfl, hb⟩
              refine ⟨_, rfl, ?_⟩
              replace HO_3 := Aside0.mk (Kd.Q_below (U HO_3.out) hb); replace HO_491000 := Aside0.mk (Kd.S_below (U HO_491000.out) hb); replace HO_497000 := Aside0.mk (Kd.S_below (U HO_497000.out) hb); replace HO_503000 := Aside0.mk (Kd.S_below (U HO_503000.out) hb); replace HO507 := Aside0.mk (Kd.S_below (U HO507.out) hb); replace BK490 := bB BK490 hb; replace BK496 := bB BK496 hb; replace BK502 := bB BK502 hb; replace BK510 := bB BK510 hb; replace HB := BS hb; (try clear hb); (try clear hb2); (try clear hk); (try clear hi)
              refine hK.out _ _ ⟨(blk_cell BK510.out 0).trans rfl, (blk_cell BK510.out 1).trans rfl, (blk_cell BK490.out 0).trans rfl, (blk_cell BK490.out 1).trans rfl, (blk_cell BK496.out 0).trans rfl, (blk_cell BK496.out 1).trans rfl⟩ (fun hHeld => ?_)
              clear hK K
              refine norm_ (a' := ?_) ?_ ?_
              rotate_left
              · show Act.put _ (some 63) _ = _
                simp only [Act.put, List.setIfInBounds_toArray, List.set_cons_zero, List.set_cons_succ, i64_w, i32_w]
                rfl
              refine pure_ (i := 6) (N := some 64) (v := ?_) (a' := ?_) #[true, true, true, true, true, true, true, false, false, false, false, false, false, false, false, false, false] rfl rfl (any_of HT_.out (by kernel_rfl)) (fun _ _ _ h => h) (Or.inl ⟨by rfl, ?_⟩) ?_ ?_
              rotate_left
              · intro w'
                go_simp
                with_reducible rfl
              rotate_left
              · simp only [Act.put, List.setIfInBounds_toArray, List.set_cons_zero, List.set_cons_succ, i64_w, i32_w]
                rfl
              refine pure_ (i := 7) (N := some 65) (v := ?_) (a' := ?_) #[true, true, true, true, true, true, true, true, false, false, false, false, false, false, false, false, false] rfl rfl (any_of HT_.out (by kernel_rfl)) (fun _ _ _ h => h) (Or.inl ⟨by rfl, ?_⟩) ?_ ?_
              rotate_left
              · intro w'
                go_simp
                with_reducible rfl
              rotate_left
              · simp only [Act.put, List.setIfInBounds_toArray, List.set_cons_zero, List.set_cons_succ, i64_w, i32_w]
                rfl
              refine pure_ (i := 8) (N := some 66) (v := ?_) (a' := ?_) #[true, true, true, true, true, true, true, true, true, false, false, false, false, false, false, false, false] rfl rfl (any_of HT_.out (by kernel_rfl)) (fun _ _ _ h => h) (Or.inl ⟨by rfl, ?_⟩) ?_ ?_
              rotate_left
              · intro w'
                go_simp
                with_reducible rfl
              rotate_left
              · simp only [Act.put, List.setIfInBounds_toArray, List.set_cons_zero, List.set_cons_succ, i64_w, i32_w]
                rfl
              refine pure_ (i := 11) (N := some 69) (v := ?_) (a' := ?_) #[true, true, true, true, true, true, true, true, true, false, false, true, false, false, false, false, false] rfl rfl (any_of HT_.out (by kernel_rfl)) (fun _ _ _ h => h) (Or.inl ⟨by rfl, ?_⟩) ?_ ?_
              rotate_left
              · intro w'
                go_simp
                with_reducible rfl
              rotate_left
              · simp only [Act.put, List.setIfInBounds_toArray, List.set_cons_zero, List.set_cons_succ, i64_w, i32_w]
                rfl
              refine take_ (i := 9) (N := some 67) (v := ?_) (a' := ?_) #[true, true, true, true, true, true, true, true, true, true, false, true, false, false, false, false, false] rfl rfl (take_ofW HT_.out HW_.out (by kernel_rfl)) (fun _ _ _ h => h) (Or.inl ⟨by rfl, ?_⟩) hHeld ?_ ?_
              rotate_left
              · rintro w' ⟨s0, s1, s2, s3, s4, s5⟩
                go_simp
                with_reducible rfl
              rotate_left
              · simp only [Act.put, List.setIfInBounds_toArray, List.set_cons_zero, List.set_cons_succ, i64_w, i32_w]
                rfl
              refine take_ (i := 12) (N := some 70) (v := ?_) (a' := ?_) #[true, true, true, true, true, true, true, true, true, true, false, true, true, false, false, false, false] rfl rfl (take_ofW HT_.out HW_.out (by kernel_rfl)) (fun _ _ _ h => h) (Or.inl ⟨by rfl, ?_⟩) hHeld ?_ ?_
              rotate_left
              · rintro w' ⟨s0, s1, s2, s3, s4, s5⟩
                go_simp
                with_reducible rfl
              rotate_left
              · simp only [Act.put, List.setIfInBounds_toArray, List.set_cons_zero, List.set_cons_succ, i64_w, i32_w]
                rfl
              refine one_ (i := 10) (N := some 68) #[true, true, true, true, true, true, true, true, true, true, true, true, true, false, false, false, false] rfl rfl (one_of HT_.out (by kernel_rfl)) (by decide) (fun K hK => ?_)
              refine goes_ Try.func20 (by kernel_rfl) rfl #[.slice Ao11 t483.length co11, .agg #[.slice Ao14 t491.length co14, .int .i64 t494]] (by rfl) rfl rfl (by (try simp only [List.map_toArray, List.map_cons, List.map_nil]); first | done | rfl | (simp only [List.length_drop, List.length_take]; rfl)) ?_
              with_reducible refine (impl_MoveSign.calls kj5 _ _ t483 _ _ t491 t494 t512 _ ?side1 ?side2 ?side3 ?side4 A52.out).mono ?_
              (case side1 => exact U ((Kd.Q_reads' HO_3.out).2.2))
              (case side2 => exact (Kd.Q_reads' HO_3.out).2.1)
              (case side3 => exact U ((Kd.S_reads' HO_497000.out).2.2))
              (case side4 => exact (Kd.S_reads' HO_497000.out).2.1)
              rintro e w67 ⟨rfl, hb⟩
              refine ⟨_, rfl, ?_⟩
              replace HO_3 := Aside0.mk (Kd.Q_below (U HO_3.out) hb); replace HO_491000 := Aside0.mk (Kd.S_below (U HO_491000.out) hb); replace HO_497000 := Aside0.mk (Kd.S_below (U HO_497000.out) hb); replace HO_503000 := Aside0.mk (Kd.S_below (U HO_503000.out) hb); replace HO507 := Aside0.mk (Kd.S_below (U HO507.out) hb); replace BK490 := bB BK490 hb; replace BK496 := bB BK496 hb; replace BK502 := bB BK502 hb; replace BK510 := bB BK510 hb; replace HB := BS hb; (try clear hb); (try clear hb2); (try clear hk); (try clear hi)
              refine hK.out _ _ ⟨(blk_cell BK510.out 0).trans rfl, (blk_cell BK510.out 1).trans rfl, (blk_cell BK490.out 0).trans rfl, (blk_cell BK490.out 1).trans rfl, (blk_cell BK496.out 0).trans rfl, (blk_cell BK496.out 1).trans rfl⟩ (fun hHeld => ?_)
              clear hK K
              refine norm_ (a' := ?_) ?_ ?_
              rotate_left
              · show Act.put _ (some 68) _ = _
                simp only [Act.put, List.setIfInBounds_toArray, List.set_cons_zero, List.set_cons_succ, i64_w, i32_w]
                rfl
              refine one_ (i := 13) (N := some 71) #[true, true, true, true, true, true, true, true, true, true, true, true, true, true, false, false, false] rfl rfl (one_of HT_.out (by kernel_rfl)) (by decide) (fun K hK => ?_)
              refine goes_ Try.func20 (by kernel_rfl) rfl #[.slice Ao11 t483.length co11, .agg #[.slice Ao9 t486.length co9, .int .i64 t489]] (by rfl) rfl rfl (by (try simp only [List.map_toArray, List.map_cons, List.map_nil]); first | done | rfl | (simp only [List.length_drop, List.length_take]; rfl)) ?_
              with_reducible refine (impl_MoveSign.calls kj5 _ _ t483 _ _ t486 t489 t513 _ ?side1 ?side2 ?side3 ?side4 A53.out).mono ?_
              (case side1 => exact U ((Kd.Q_reads' HO_3.out).2.2))
              (case side2 => exact (Kd.Q_reads' HO_3.out).2.1)
              (case side3 => exact U ((Kd.S_reads' HO_491000.out).2.2))
              (case side4 => exact (Kd.S_reads' HO_491000.out).2.1)
              rintro e w68 ⟨rfl, hb⟩
              refine ⟨_, rfl, ?_⟩
              replace HO_3 := Aside0.mk (Kd.Q_below (U HO_3.out) hb); replace HO_491000 := Aside0.mk (Kd.S_below (U HO_491000.out) hb); replace HO_497000 := Aside0.mk (Kd.S_below (U HO_497000.out) hb); replace HO_503000 := Aside0.mk (Kd.S_below (U HO_503000.out) hb); replace HO507 := Aside0.mk (Kd.S_below (U HO507.out) hb); replace BK490 := bB BK490 hb; replace BK496 := bB BK496 hb; replace BK502 := bB BK502 hb; replace BK510 := bB BK510 hb; replace HB := BS hb; (try clear hb); (try clear hb2); (try clear hk); (try clear hi)
              refine hK.out _ _ ⟨(blk_cell BK510.out 0).trans rfl, (blk_cell BK510.out 1).trans rfl, (blk_cell BK490.out 0).trans rfl, (blk_cell BK490.out 1).trans rfl, (blk_cell BK496.out 0).trans rfl, (blk_cell BK496.out 1).trans rfl⟩ (fun hHeld => ?_)
              clear hK K
              refine norm_ (a' := ?_) ?_ ?_
              rotate_left
              · show Act.put _ (some 71) _ = _
                simp only [Act.put, List.setIfInBounds_toArray, List.set_cons_zero, List.set_cons_succ, i64_w, i32_w]
                rfl
              refine pure_ (i := 14) (N := some 72) (v := ?_) (a' := ?_) #[true, true, true, true, true, true, true, true, true, true, true, true, true, true, true, false, false] rfl rfl (any_of HT_.out (by kernel_rfl)) (fun _ _ _ h => h) (Or.inl ⟨by rfl, ?_⟩) ?_ ?_
              rotate_left
              · intro w'
                go_simp
                with_reducible rfl
              rotate_left
              · simp only [Act.put, List.setIfInBounds_toArray, List.set_cons_zero, List.set_cons_succ, i64_w, i32_w]
                rfl
              refine pure_ (i := 15) (N := some 73) (v := ?_) (a' := ?_) #[true, true, true, true, true, true, true, true, true, true, true, true, true, true, true, true, false] rfl rfl (any_of HT_.out (by kernel_rfl)) (fun _ _ _ h => h) (Or.inl ⟨by rfl, ?_⟩) ?_ ?_
              rotate_left
              · intro w'
                go_simp
                with_reducible rfl
              rotate_left
              · simp only [Act.put, List.setIfInBounds_toArray, List.set_cons_zero, List.set_cons_succ, i64_w, i32_w]
                rfl
              refine pure_ (i := 16) (N := some 2) (v := ?_) (a' := ?_) #[true, true, true, true, true, true, true, true, true, true, true, true, true, true, true, true, true] rfl rfl (any_of HT_.out (by kernel_rfl)) (fun _ _ _ h => h) (Or.inl ⟨by rfl, ?_⟩) ?_ ?_
              rotate_left
              · intro w'
                go_simp
                with_reducible rfl
              rotate_left
              · simp only [Act.put, List.setIfInBounds_toArray, List.set_cons_zero, List.set_cons_succ, i64_w, i32_w]
                rfl
              refine done_ (done_of HT_.out (by kernel_rfl)) ?_
              try go_wp2
              go_ret
              exact ⟨eR, BU⟩
            · replace c51 := Bool.eq_false_iff.mpr c51
              subst c51; replace H := ifF H
              exact absurd H (by simp)
          · replace c49 := Bool.eq_false_iff.mpr c49
            subst c49; replace H := ifF H; obtain ⟨t514, A69, H⟩ := bnd H; obtain ⟨t515, A70, H⟩ := bnd H; obtain rfl := Option.some.inj H; have hnb71 := NB496_490.out; have hnc71 := NB490_496.out; have hnb72 := NB496_502.out; have hnc72 := NB502_496.out; obtain ⟨hcz73_0, hcz73_1, hfz73_0, hfz73_1⟩ := bcf BK496
            try go_wp2_with (first | ((with_reducible refine gate_callee (f := 19) rfl ?_); refine goesK (some 55) Try.func19 #[.slice Ao11 t483.length co11, .agg #[.slice Ao14 t491.length co14, .int .i64 t494]] ?_; (with_reducible refine (impl_MoveBack.calls kj5 _ _ t483 _ _ t491 t494 t505 t508 false _ ?side1 ?side2 ?side3 ?side4 A48.out).mono ?_); (case side1 => exact U ((Kd.Q_reads' HO_3.out).2.2)); (case side2 => exact (Kd.Q_reads' HO_3.out).2.1); (case side3 => exact U ((Kd.S_reads' HO_497000.out).2.2)); (case side4 => exact (Kd.S_reads' HO_497000.out).2.1); rintro e w74 ⟨v506, rfl, ho0, hb⟩; refine ⟨_, rfl, ?_⟩; have HO507 := Aside0.mk (Kd.S_lower (Kd.S_new' (Kd.S_new' (Kd.S_new' (Kd.S_new' ho0 (Kd.Q_lt (U HO_3.out))) (Kd.S_lt (U HO_491000.out))) (Kd.S_lt (U HO_497000.out))) (Kd.S_lt (U HO_503000.out))) (below_size BU)); replace HO_3 := Aside0.mk (Kd.Q_below (U HO_3.out) hb); replace HO_491000 := Aside0.mk (Kd.S_elder' (U HO_491000.out) (Kd.S_base ho0) hb); replace HO_497000 := Aside0.mk (Kd.S_elder' (U HO_497000.out) (Kd.S_base ho0) hb); replace HO_503000 := Aside0.mk (Kd.S_elder' (U HO_503000.out) (Kd.S_base ho0) hb); replace BK490 := bB BK490 hb; replace BK496 := bB BK496 hb; replace BK502 := bB BK502 hb; replace HB := BS hb; (try clear hb); (try clear ho0)) | ((with_reducible refine gate_dst (N := 9) rfl ?_); refine boxE (N := 9) (cs := #[.slice none 0 0, .int .i64 0]) (t := 27) ?_; intro gb510 hg w75 hbox hb; replace HO_3 := Aside0.mk (Kd.Q_below (U HO_3.out) hb); replace HO_491000 := Aside0.mk (Kd.S_below (U HO_491000.out) hb); replace HO_497000 := Aside0.mk (Kd.S_below (U HO_497000.out) hb); replace HO_503000 := Aside0.mk (Kd.S_below (U HO_503000.out) hb); replace HO507 := Aside0.mk (Kd.S_below (U HO507.out) hb); have BK510 := Aside0.mk (hbox); have GW510 := GS w hg; have GE510 := GS w hg; replace HB := BS hb; have NB490_510 := NL BK490 hg; have NB510_490 := NG BK490 hg; replace BK490 := bB BK490 hb; have NB496_510 := NL BK496 hg; have NB510_496 := NG BK496 hg; replace BK496 := bB BK496 hb; have NB502_510 := NL BK502 hg; have NB510_502 := NG BK502 hg; replace BK502 := bB BK502 hb; clear hb hbox hg; obtain ⟨Ao76, co76, eo76⟩ := Kd.S_slice HO507.out; subst eo76; have hnb77 := NB510_490.out; have hnc77 := NB490_510.out; have hnb78 := NB510_496.out; have hnc78 := NB496_510.out; have hnb79 := NB510_502.out; have hnc79 := NB502_510.out; obtain ⟨hcz80_0, hcz80_1, hfz80_0, hfz80_1⟩ := bcf BK510))
            have n0_ : Aside0 (Kd.Q (Kd.int .i64) 3 ((w75.setCell ⟨gb510, 0, none⟩ (.slice Ao76 t505.length co76)).setCell ⟨gb510, 1, none⟩ (.int .i64 t508)) w.heap.size (fun _ => True) (.slice Ao11 t483.length co11) t483) := ⟨Kd.QM (Kd.Q_far (p := ⟨gb510, 1, none⟩) (Kd.Q_far (p := ⟨gb510, 0, none⟩) (Kd.Q_types HO_3.out BK510.out (by decide)) (fun _ hk => hk.2) (.slice Ao76 t505.length co76)) (fun _ hk => hk.2) (.int .i64 t508)) (fun _ hk => trivial)⟩; have n1_ : Aside0 (Kd.S (Kd.slice 3 (Kd.int .i64)) 23 ((w75.setCell ⟨gb510, 0, none⟩ (.slice Ao76 t505.length co76)).setCell ⟨gb510, 1, none⟩ (.int .i64 t508)) w.heap.size (fun k_ => some k_ ≠ (.slice Ao11 t483.length co11 : Value).ownBlock ∧ some k_ ≠ (.slice Ao14 t491.length co14 : Value).ownBlock ∧ some k_ ≠ (.slice Ao20 t497.length co20 : Value).ownBlock ∧ some k_ ≠ (.slice Ao76 t505.length co76 : Value).ownBlock) (.slice Ao9 t486.length co9) t486) := ⟨Kd.SM (Kd.S_far (p := ⟨gb510, 1, none⟩) (Kd.S_far (p := ⟨gb510, 0, none⟩) (Kd.S_types HO_491000.out BK510.out (by decide)) (fun _ hk => hk.2) (.slice Ao76 t505.length co76)) (fun _ hk => hk.2) (.int .i64 t508)) (fun _ hk => ⟨hk.1.1.1, ⟨hk.1.1.2.1, ⟨hk.1.1.2.2, hk.1.2⟩⟩⟩)⟩; have n2_ : Aside0 (Kd.S (Kd.slice 3 (Kd.int .i64)) 23 ((w75.setCell ⟨gb510, 0, none⟩ (.slice Ao76 t505.length co76)).setCell ⟨gb510, 1, none⟩ (.int .i64 t508)) w.heap.size (fun k_ => some k_ ≠ (.slice Ao11 t483.length co11 : Value).ownBlock ∧ some k_ ≠ (.slice Ao9 t486.length co9 : Value).ownBlock ∧ some k_ ≠ (.slice Ao20 t497.length co20 : Value).ownBlock ∧ some k_ ≠ (.slice Ao76 t505.length co76 : Value).ownBlock) (.slice Ao14 t491.length co14) t491) := ⟨Kd.SM (Kd.S_far (p := ⟨gb510, 1, none⟩) (Kd.S_far (p := ⟨gb510, 0, none⟩) (Kd.S_types HO_497000.out BK510.out (by decide)) (fun _ hk => hk.2) (.slice Ao76 t505.length co76)) (fun _ hk => hk.2) (.int .i64 t508)) (fun _ hk => ⟨hk.1.1.1, ⟨hk.1.1.2.1, ⟨hk.1.1.2.2, hk.1.2⟩⟩⟩)⟩; have n3_ : Aside0 (Kd.S (Kd.slice 3 (Kd.int .i64)) 23 ((w75.setCell ⟨gb510, 0, none⟩ (.slice Ao76 t505.length co76)).setCell ⟨gb510, 1, none⟩ (.int .i64 t508)) w.heap.size (fun k_ => some k_ ≠ (.slice Ao11 t483.length co11 : Value).ownBlock ∧ some k_ ≠ (.slice Ao9 t486.length co9 : Value).ownBlock ∧ some k_ ≠ (.slice Ao14 t491.length co14 : Value).ownBlock ∧ some k_ ≠ (.slice Ao76 t505.length co76 : Value).ownBlock) (.slice Ao20 t497.length co20) t497) := ⟨Kd.SM (Kd.S_far (p := ⟨gb510, 1, none⟩) (Kd.S_far (p := ⟨gb510, 0, none⟩) (Kd.S_types HO_503000.out BK510.out (by decide)) (fun _ hk => hk.2) (.slice Ao76 t505.length co76)) (fun _ hk => hk.2) (.int .i64 t508)) (fun _ hk => ⟨hk.1.1.1, ⟨hk.1.1.2.1, ⟨hk.1.1.2.2, hk.1.2⟩⟩⟩)⟩; have n4_ : Aside0 (Kd.S (Kd.slice 3 (Kd.int .i64)) 23 ((w75.setCell ⟨gb510, 0, none⟩ (.slice Ao76 t505.length co76)).setCell ⟨gb510, 1, none⟩ (.int .i64 t508)) w.heap.size (fun k_ => some k_ ≠ (.slice Ao11 t483.length co11 : Value).ownBlock ∧ some k_ ≠ (.slice Ao9 t486.length co9 : Value).ownBlock ∧ some k_ ≠ (.slice Ao14 t491.length co14 : Value).ownBlock ∧ some k_ ≠ (.slice Ao20 t497.length co20 : Value).ownBlock) (.slice Ao76 t505.length co76) t505) := ⟨Kd.SM (Kd.S_far (p := ⟨gb510, 1, none⟩) (Kd.S_far (p := ⟨gb510, 0, none⟩) (Kd.S_types HO507.out BK510.out (by decide)) (fun _ hk => hk.2) (.slice Ao76 t505.length co76)) (fun _ hk => hk.2) (.int .i64 t508)) (fun _ hk => ⟨hk.1.1.1.1.2, ⟨hk.1.1.1.2, ⟨hk.1.1.2, hk.1.2⟩⟩⟩)⟩
            have n5_ : Aside0 (((w75.setCell ⟨gb510, 0, none⟩ (.slice Ao76 t505.length co76)).setCell ⟨gb510, 1, none⟩ (.int .i64 t508)).heap[gb490]? = some (.cells #[.slice Ao9 t486.length co9, .int .i64 t489] 27 (0, 0))) := ⟨by (with_reducible repeat (first | refine blk_drewN ?_ _ | refine blk_drew ?_ | refine blk_alloc ?_ _)); refine blk_far ?_ NB490_510.out _; (with_reducible repeat (first | refine blk_drewN ?_ _ | refine blk_drew ?_ | refine blk_alloc ?_ _)); refine blk_far ?_ NB490_510.out _; (with_reducible repeat (first | refine blk_drewN ?_ _ | refine blk_drew ?_ | refine blk_alloc ?_ _)); exact BK490.out⟩
            have n6_ : Aside0 (((w75.setCell ⟨gb510, 0, none⟩ (.slice Ao76 t505.length co76)).setCell ⟨gb510, 1, none⟩ (.int .i64 t508)).heap[gb496]? = some (.cells #[.slice Ao14 t491.length co14, .int .i64 t494] 27 (0, 0))) := ⟨by (with_reducible repeat (first | refine blk_drewN ?_ _ | refine blk_drew ?_ | refine blk_alloc ?_ _)); refine blk_far ?_ NB496_510.out _; (with_reducible repeat (first | refine blk_drewN ?_ _ | refine blk_drew ?_ | refine blk_alloc ?_ _)); refine blk_far ?_ NB496_510.out _; (with_reducible repeat (first | refine blk_drewN ?_ _ | refine blk_drew ?_ | refine blk_alloc ?_ _)); exact BK496.out⟩
            have n7_ : Aside0 (((w75.setCell ⟨gb510, 0, none⟩ (.slice Ao76 t505.length co76)).setCell ⟨gb510, 1, none⟩ (.int .i64 t508)).heap[gb502]? = some (.cells #[.slice Ao20 t497.length co20, .int .i64 t500] 27 (0, 0))) := ⟨by (with_reducible repeat (first | refine blk_drewN ?_ _ | refine blk_drew ?_ | refine blk_alloc ?_ _)); refine blk_far ?_ NB502_510.out _; (with_reducible repeat (first | refine blk_drewN ?_ _ | refine blk_drew ?_ | refine blk_alloc ?_ _)); refine blk_far ?_ NB502_510.out _; (with_reducible repeat (first | refine blk_drewN ?_ _ | refine blk_drew ?_ | refine blk_alloc ?_ _)); exact BK502.out⟩
            have n8_ : Aside0 (((w75.setCell ⟨gb510, 0, none⟩ (.slice Ao76 t505.length co76)).setCell ⟨gb510, 1, none⟩ (.int .i64 t508)).heap[gb510]? = some (.cells #[.slice Ao76 t505.length co76, .int .i64 t508] 27 (0, 0))) := ⟨by (with_reducible repeat (first | refine blk_drewN ?_ _ | refine blk_drew ?_ | refine blk_alloc ?_ _)); refine blk_put (cs := #[.slice Ao76 t505.length co76, .int .i64 0]) ?_ 1 _ rfl; (with_reducible repeat (first | refine blk_drewN ?_ _ | refine blk_drew ?_ | refine blk_alloc ?_ _)); refine blk_put (cs := #[.slice none 0 0, .int .i64 0]) ?_ 0 _ rfl; (with_reducible repeat (first | refine blk_drewN ?_ _ | refine blk_drew ?_ | refine blk_alloc ?_ _)); exact BK510.out⟩
            have n9_ : Aside0 (Below w.heap.size w ((w75.setCell ⟨gb510, 0, none⟩ (.slice Ao76 t505.length co76)).setCell ⟨gb510, 1, none⟩ (.int .i64 t508))) := ⟨BU⟩; (try clear HO_3); (try clear HO_491000); (try clear HO_497000); (try clear HO_503000); (try clear HO507); (try clear BK490); (try clear BK496); (try clear BK502); (try clear BK510)
            (try try clear HB)
            generalize ((w75.setCell ⟨gb510, 0, none⟩ (.slice Ao76 t505.length co76)).setCell ⟨gb510, 1, none⟩ (.int .i64 t508)) = w81 at n0_ n1_ n2_ n3_ n4_ n5_ n6_ n7_ n8_ n9_ ⊢; have HO_3 := n0_; have HO_491000 := n1_; have HO_497000 := n2_; have HO_503000 := n3_; have HO507 := n4_; have BK490 := n5_; have BK496 := n6_; have BK502 := n7_; have BK510 := n8_; have HB := n9_; clear n0_ n1_ n2_ n3_ n4_ n5_ n6_ n7_ n8_ n9_; replace HO_3 := Aside0.mk (Kd.Q_drew HO_3.out); replace HO_491000 := Aside0.mk (Kd.S_drew HO_491000.out); replace HO_497000 := Aside0.mk (Kd.S_drew HO_497000.out); replace HO_503000 := Aside0.mk (Kd.S_drew HO_503000.out); replace HO507 := Aside0.mk (Kd.S_drew HO507.out); replace BK490 := Aside0.mk (blk_drew BK490.out); replace BK496 := Aside0.mk (blk_drew BK496.out); replace BK502 := Aside0.mk (blk_drew BK502.out); replace BK510 := Aside0.mk (blk_drew BK510.out); replace HB := Aside0.mk (below_drew1 HB.out)
            refine start_ (n := 17) (S := fun w' => w'.cell? ⟨gb496, 0, none⟩ = some (.slice Ao14 t491.length co14) ∧ w'.cell? ⟨gb496, 1, none⟩ = some (.int .i64 t494) ∧ w'.cell? ⟨gb490, 0, none⟩ = some (.slice Ao9 t486.length co9) ∧ w'.cell? ⟨gb490, 1, none⟩ = some (.int .i64 t489)) (ds := []) #[false, false, false, false, false, false, false, false, false, false, false, false, false, false, false, false, false] (by kernel_rfl) rfl rfl ⟨(blk_cell BK496.out 0).trans rfl, (blk_cell BK496.out 1).trans rfl, (blk_cell BK490.out 0).trans rfl, (blk_cell BK490.out 1).trans rfl⟩ (fun hHeld => ?_); refine with_tabW laws_FnMoveBack.tab9 laws_FnMoveBack.bits9 (fun HT_ HW_ => ?_)
            generalize w81.drew = w82 at HO_3 HO_491000 HO_497000 HO_503000 HO507 BK490 BK496 BK502 BK510 HB hHeld ⊢
            refine pure_ (i := 0) (N := some 58) (v := ?_) (a' := ?_) #[true, false, false, false, false, false, false, false, false, false, false, false, false, false, false, false, false] rfl rfl (any_of HT_.out (by kernel_rfl)) (fun _ _ _ h => h) (Or.inl ⟨by rfl, ?_⟩) ?_ ?_
            rotate_left
            · intro w'
              go_simp
              with_reducible rfl
            rotate_left
            · simp only [Act.put, List.setIfInBounds_toArray, List.set_cons_zero, List.set_cons_succ, i64_w, i32_w]
              rfl
            refine pure_ (i := 1) (N := some 59) (v := ?_) (a' := ?_) #[true, true, false, false, false, false, false, false, false, false, false, false, false, false, false, false, false] rfl rfl (any_of HT_.out (by kernel_rfl)) (fun _ _ _ h => h) (Or.inl ⟨by rfl, ?_⟩) ?_ ?_
            rotate_left
            · intro w'
              go_simp
              with_reducible rfl
            rotate_left
            · simp only [Act.put, List.setIfInBounds_toArray, List.set_cons_zero, List.set_cons_succ, i64_w, i32_w]
              rfl
            refine pure_ (i := 2) (N := some 60) (v := ?_) (a' := ?_) #[true, true, true, false, false, false, false, false, false, false, false, false, false, false, false, false, false] rfl rfl (any_of HT_.out (by kernel_rfl)) (fun _ _ _ h => h) (Or.inl ⟨by rfl, ?_⟩) ?_ ?_
            rotate_left
            · intro w'
              go_simp
              with_reducible rfl
            rotate_left
            · simp only [Act.put, List.setIfInBounds_toArray, List.set_cons_zero, List.set_cons_succ, i64_w, i32_w]
              rfl
            refine pure_ (i := 3) (N := some 61) (v := undef) (a' := ?_) #[true, true, true, true, false, false, false, false, false, false, false, false, false, false, false, false, false] rfl rfl (any_of HT_.out (by kernel_rfl)) (fun _ _ _ h => h) (Or.inr ⟨by rfl, rfl⟩) ?_ ?_
            rotate_left
            · simp only [Act.put, List.setIfInBounds_toArray, List.set_cons_zero, List.set_cons_succ, i64_w, i32_w]
              rfl
            refine pure_ (i := 4) (N := some 62) (v := undef) (a' := ?_) #[true, true, true, true, true, false, false, false, false, false, false, false, false, false, false, false, false] rfl rfl (any_of HT_.out (by kernel_rfl)) (fun _ _ _ h => h) (Or.inr ⟨by rfl, rfl⟩) ?_ ?_
            rotate_left
            · simp only [Act.put, List.setIfInBounds_toArray, List.set_cons_zero, List.set_cons_succ, i64_w, i32_w]
              rfl
            refine pure_ (i := 5) (N := some 63) (v := undef) (a' := ?_) #[true, true, true, true, true, true, false, false, false, false, false, false, false, false, false, false, false] rfl rfl (any_of HT_.out (by kernel_rfl)) (fun _ _ _ h => h) (Or.inr ⟨by rfl, rfl⟩) ?_ ?_
            rotate_left
            · simp only [Act.put, List.setIfInBounds_toArray, List.set_cons_zero, List.set_cons_succ, i64_w, i32_w]
              rfl
            refine pure_ (i := 6) (N := some 64) (v := ?_) (a' := ?_) #[true, true, true, true, true, true, true, false, false, false, false, false, false, false, false, false, false] rfl rfl (any_of HT_.out (by kernel_rfl)) (fun _ _ _ h => h) (Or.inl ⟨by rfl, ?_⟩) ?_ ?_
            rotate_left
            · intro w'
              go_simp
              with_reducible rfl
            rotate_left
            · simp only [Act.put, List.setIfInBounds_toArray, List.set_cons_zero, List.set_cons_succ, i64_w, i32_w]
              rfl
            refine pure_ (i := 7) (N := some 65) (v := ?_) (a' := ?_) #[true, true, true, true, true, true, true, true, false, false, false, false, false, false, false, false, false] rfl rfl (any_of HT_.out (by kernel_rfl)) (fun _ _ _ h => h) (Or.inl ⟨by rfl, ?_⟩) ?_ ?_
            rotate_left
            · intro w'
              go_simp
              with_reducible rfl
            rotate_left
            · simp only [Act.put, List.setIfInBounds_toArray, List.set_cons_zero, List.set_cons_succ, i64_w, i32_w]
              rfl
            refine pure_ (i := 8) (N := some 66) (v := ?_) (a' := ?_) #[true, true, true, true, true, true, true, true, true, false, false, false, false, false, false, false, false] rfl rfl (any_of HT_.out (by kernel_rfl)) (fun _ _ _ h => h) (Or.inl ⟨by rfl, ?_⟩) ?_ ?_
            rotate_left
            · intro w'
              go_simp
              with_reducible rfl
            rotate_left
            · simp only [Act.put, List.setIfInBounds_toArray, List.set_cons_zero, List.set_cons_succ, i64_w, i32_w]
              rfl
            refine pure_ (i := 11) (N := some 69) (v := ?_) (a' := ?_) #[true, true, true, true, true, true, true, true, true, false, false, true, false, false, false, false, false] rfl rfl (any_of HT_.out (by kernel_rfl)) (fun _ _ _ h => h) (Or.inl ⟨by rfl, ?_⟩) ?_ ?_
            rotate_left
            · intro w'
              go_simp
              with_reducible rfl
            rotate_left
            · simp only [Act.put, List.setIfInBounds_toArray, List.set_cons_zero, List.set_cons_succ, i64_w, i32_w]
              rfl
            refine take_ (i := 9) (N := some 67) (v := ?_) (a' := ?_) #[true, true, true, true, true, true, true, true, true, true, false, true, false, false, false, false, false] rfl rfl (take_ofW HT_.out HW_.out (by kernel_rfl)) (fun _ _ _ h => h) (Or.inl ⟨by rfl, ?_⟩) hHeld ?_ ?_
            rotate_left
            · rintro w' ⟨s0, s1, s2, s3⟩
              go_simp
              with_reducible rfl
            rotate_left
            · simp only [Act.put, List.setIfInBounds_toArray, List.set_cons_zero, List.set_cons_succ, i64_w, i32_w]
              rfl
            refine take_ (i := 12) (N := some 70) (v := ?_) (a' := ?_) #[true, true, true, true, true, true, true, true, true, true, false, true, true, false, false, false, false] rfl rfl (take_ofW HT_.out HW_.out (by kernel_rfl)) (fun _ _ _ h => h) (Or.inl ⟨by rfl, ?_⟩) hHeld ?_ ?_
            rotate_left
            · rintro w' ⟨s0, s1, s2, s3⟩
              go_simp
              with_reducible rfl
            rotate_left
            · simp only [Act.put, List.setIfInBounds_toArray, List.set_cons_zero, List.set_cons_succ, i64_w, i32_w]
              rfl
            refine one_ (i := 10) (N := some 68) #[true, true, true, true, true, true, true, true, true, true, true, true, true, false, false, false, false] rfl rfl (one_of HT_.out (by kernel_rfl)) (by decide) (fun K hK => ?_)
            refine goes_ Try.func20 (by kernel_rfl) rfl #[.slice Ao11 t483.length co11, .agg #[.slice Ao14 t491.length co14, .int .i64 t494]] (by rfl) rfl rfl (by (try simp only [List.map_toArray, List.map_cons, List.map_nil]); first | done | rfl | (simp only [List.length_drop, List.length_take]; rfl)) ?_
            with_reducible refine (impl_MoveSign.calls kj5 _ _ t483 _ _ t491 t494 t514 _ ?side1 ?side2 ?side3 ?side4 A69.out).mono ?_
            (case side1 => exact U ((Kd.Q_reads' HO_3.out).2.2))
            (case side2 => exact (Kd.Q_reads' HO_3.out).2.1)
            (case side3 => exact U ((Kd.S_reads' HO_497000.out).2.2))
            (case side4 => exact (Kd.S_reads' HO_497000.out).2.1)
            rintro e w83 ⟨rfl, hb⟩
            refine ⟨_, rfl, ?_⟩
            replace HO_3 := Aside0.mk (Kd.Q_below (U HO_3.out) hb); replace HO_491000 := Aside0.mk (Kd.S_below (U HO_491000.out) hb); replace HO_497000 := Aside0.mk (Kd.S_below (U HO_497000.out) hb); replace HO_503000 := Aside0.mk (Kd.S_below (U HO_503000.out) hb); replace HO507 := Aside0.mk (Kd.S_below (U HO507.out) hb); replace BK490 := bB BK490 hb; replace BK496 := bB BK496 hb; replace BK502 := bB BK502 hb; replace BK510 := bB BK510 hb; replace HB := BS hb; (try clear hb); (try clear hb2); (try clear hk); (try clear hi)
            refine hK.out _ _ ⟨(blk_cell BK496.out 0).trans rfl, (blk_cell BK496.out 1).trans rfl, (blk_cell BK490.out 0).trans rfl, (blk_cell BK490.out 1).trans rfl⟩ (fun hHeld => ?_)
            clear hK K
            refine norm_ (a' := ?_) ?_ ?_
            rotate_left
            · show Act.put _ (some 68) _ = _
              simp only [Act.put, List.setIfInBounds_toArray, List.set_cons_zero, List.set_cons_succ, i64_w, i32_w]
              rfl
            refine one_ (i := 13) (N := some 71) #[true, true, true, true, true, true, true, true, true, true, true, true, true, true, false, false, false] rfl rfl (one_of HT_.out (by kernel_rfl)) (by decide) (fun K hK => ?_)
            refine goes_ Try.func20 (by kernel_rfl) rfl #[.slice Ao11 t483.length co11, .agg #[.slice Ao9 t486.length co9, .int .i64 t489]] (by rfl) rfl rfl (by (try simp only [List.map_toArray, List.map_cons, List.map_nil]); first | done | rfl | (simp only [List.length_drop, List.length_take]; rfl)) ?_
            with_reducible refine (impl_MoveSign.calls kj5 _ _ t483 _ _ t486 t489 t515 _ ?side1 ?side2 ?side3 ?side4 A70.out).mono ?_
            (case side1 => exact U ((Kd.Q_reads' HO_3.out).2.2))
            (case side2 => exact (Kd.Q_reads' HO_3.out).2.1)
            (case side3 => exact U ((Kd.S_reads' HO_491000.out).2.2))
            (case side4 => exact (Kd.S_reads' HO_491000.out).2.1)
            rintro e w84 ⟨rfl, hb⟩
            refine ⟨_, rfl, ?_⟩
            replace HO_3 := Aside0.mk (Kd.Q_below (U HO_3.out) hb); replace HO_491000 := Aside0.mk (Kd.S_below (U HO_491000.out) hb); replace HO_497000 := Aside0.mk (Kd.S_below (U HO_497000.out) hb); replace HO_503000 := Aside0.mk (Kd.S_below (U HO_503000.out) hb); replace HO507 := Aside0.mk (Kd.S_below (U HO507.out) hb); replace BK490 := bB BK490 hb; replace BK496 := bB BK496 hb; replace BK502 := bB BK502 hb; replace BK510 := bB BK510 hb; replace HB := BS hb; (try clear hb); (try clear hb2); (try clear hk); (try clear hi)
            refine hK.out _ _ ⟨(blk_cell BK496.out 0).trans rfl, (blk_cell BK496.out 1).trans rfl, (blk_cell BK490.out 0).trans rfl, (blk_cell BK490.out 1).trans rfl⟩ (fun hHeld => ?_)
            clear hK K
            refine norm_ (a' := ?_) ?_ ?_
            rotate_left
            · show Act.put _ (some 71) _ = _
              simp only [Act.put, List.setIfInBounds_toArray, List.set_cons_zero, List.set_cons_succ, i64_w, i32_w]
              rfl
            refine pure_ (i := 14) (N := some 72) (v := ?_) (a' := ?_) #[true, true, true, true, true, true, true, true, true, true, true, true, true, true, true, false, false] rfl rfl (any_of HT_.out (by kernel_rfl)) (fun _ _ _ h => h) (Or.inl ⟨by rfl, ?_⟩) ?_ ?_
            rotate_left
            · intro w'
              go_simp
              with_reducible rfl
            rotate_left
            · simp only [Act.put, List.setIfInBounds_toArray, List.set_cons_zero, List.set_cons_succ, i64_w, i32_w]
              rfl
            refine pure_ (i := 15) (N := some 73) (v := ?_) (a' := ?_) #[true, true, true, true, true, true, true, true, true, true, true, true, true, true, true, true, false] rfl rfl (any_of HT_.out (by kernel_rfl)) (fun _ _ _ h => h) (Or.inl ⟨by rfl, ?_⟩) ?_ ?_
            rotate_left
            · intro w'
              go_simp
              with_reducible rfl
            rotate_left
            · simp only [Act.put, List.setIfInBounds_toArray, List.set_cons_zero, List.set_cons_succ, i64_w, i32_w]
              rfl
            refine pure_ (i := 16) (N := some 2) (v := ?_) (a' := ?_) #[true, true, true, true, true, true, true, true, true, true, true, true, true, true, true, true, true] rfl rfl (any_of HT_.out (by kernel_rfl)) (fun _ _ _ h => h) (Or.inl ⟨by rfl, ?_⟩) ?_ ?_
            rotate_left
            · intro w'
              go_simp
              with_reducible rfl
            rotate_left
            · simp only [Act.put, List.setIfInBounds_toArray, List.set_cons_zero, List.set_cons_succ, i64_w, i32_w]
              rfl
            refine done_ (done_of HT_.out (by kernel_rfl)) ?_
            try go_wp2
            go_ret
            exact ⟨eR, BU⟩

/-- THE ONE PURE STATEMENT of laws_FnMoveBack: yours. -/
def laws_FnMoveBack.Pure : Prop := ∀ (l0 : List Int), l0.length ≤ maxLen → l0.length * 1 ≤ 140737488351232 → (∀ x ∈ l0, (Lit.int .u8 x).wf = true) → ∃ k, laws_FnMoveBack.f k l0 = some true
theorem laws_FnMoveBack.walk (P : laws_FnMoveBack.Pure) (a0 : Option Addr) (len0 cap0 : Nat) (z0 : List Int) (w : World) (w0 : (a0 = none ∧ len0 = 0 ∧ cap0 = 0 ∧ z0 = []) ∨ ∃ x, a0 = some x ∧ len0 ≤ cap0 ∧ cap0 ≤ maxLen ∧ z0.length = cap0 ∧ (∀ i, i < z0.length → w.cell? (x.add i) = some (.int .u8 (z0.getD i 0))) ∧ ∀ n ∈ z0, (Lit.int .u8 n).wf = true) (y0 : len0 * 1 ≤ 140737488351232) :
    Calls Try.prog 8 #[.slice a0 len0 cap0] w fun e w' => e = .returned (.bool true) ∧ Below w.heap.size w w' := by
  obtain ⟨l0, rfl, hr0, hm0, hw0, hc0⟩ := ReadsInt.ofRowC w0
  obtain ⟨k, h⟩ := P l0 hm0 y0 hw0
  refine (laws_FnMoveBack.calls k _ _ l0 true w (Kd.C_of_reads (d := (0 : Int)) (h1 := fun _ => rfl) hr0) hc0 h).mono ?_
  rintro e w' ⟨rfl, hd⟩
  exact ⟨rfl, hd⟩

end Go.Proofs.Ytnbeeogmaamgdaa.PFnMoveBack
