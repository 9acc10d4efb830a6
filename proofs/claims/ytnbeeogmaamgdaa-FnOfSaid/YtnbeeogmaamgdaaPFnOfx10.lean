-- Written by a program of this session (wip/print2.py): the functions that the law reaches, plain, and the walks.
import Derived.Test.YtnbeeogmaamgdaaPFnOfx0
import Derived.Test.YtnbeeogmaamgdaaPFnOfx8
import Derived.Test.YtnbeeogmaamgdaaPFnOfx9
namespace Go.Proofs.Ytnbeeogmaamgdaa.PFnOf
open Go.RowKit Go.Proofs.YtnbeeogmaamgdaaW.PrintWords Go.Proofs.YtnbeeogmaamgdaaW.PrintLast Go.Proofs.YtnbeeogmaamgdaaW.PrintMore
attribute [local go_sem] max2_int min2_int max_two min_two max_three min_three max_four min_four   -- for this text's walks alone
set_option linter.unusedVariables false
set_option linter.unusedSimpArgs false

/-! ### impl_MoveOf: function 43 -/
def impl_MoveOf.l0 : Nat → List Int → Bool → List (List Int) → Int → Int → List (List Int) → Int → Option ((List (List Int)) × Int × Bool)
  | 0, _, _, _, _, _, _, _ => none
  | k + 1, x0, x7, x21, x22, x23, x361000, x361001 => if x23 < x22 then (if 0 ≤ x23 then (if x23 < (x21.length : Int) then ((impl_MoveMirror.f k x0 (rd_L1 x21 x23)).bind fun bt362 => (if x7 = true then (if bt362.2.2 = true then ((impl_MoveMul.f k x0 x361000 x361001 bt362.1 bt362.2.1).bind fun bt368 => (impl_MoveOf.l0 k x0 bt368.2.2 x21 x22 (wrap64 (x23 + 1)) bt368.1 bt368.2.1)) else (some (([] : List (List Int)), 0, false))) else (some (([] : List (List Int)), 0, false)))) else (none)) else (none)) else (if x7 = true then (some (x361000, x361001, true)) else (some (([] : List (List Int)), 0, false)))
def impl_MoveOf.f (k : Nat) (l0 : List Int) (l1 : List (List Int)) : Option ((List (List Int)) × Int × Bool) := if (l1.length : Int) > 6 then (some (([] : List (List Int)), 0, false)) else ((impl_MoveStay.f k l0).bind fun bt355 => (impl_MoveOf.l0 k l0 bt355.2.2 l1 (l1.length : Int) 0 bt355.1 bt355.2.1))
theorem impl_MoveOf.mono_l : ∀ k, (∀ y0 y1 y2 y3 y4 y5 y6, LeO (impl_MoveOf.l0 k y0 y1 y2 y3 y4 y5 y6) (impl_MoveOf.l0 (k + 1) y0 y1 y2 y3 y4 y5 y6))
  | 0 => fun _ _ _ _ _ _ _ r h => by simp [impl_MoveOf.l0] at h
  | k + 1 => by
    have ih0 := impl_MoveOf.mono_l k
    · intro y0 y1 y2 y3 y4 y5 y6
      unfold impl_MoveOf.l0
      repeat' first
      | (with_reducible exact ih0 _ _ _ _ _ _ _)
      | (with_reducible exact impl_MoveMirror.mono _ _ _)
      | (with_reducible exact impl_MoveMul.mono _ _ _ _ _ _)
      | (with_reducible exact impl_MoveStay.mono _ _)
      | (with_reducible exact LeO.refl _)
      | (with_reducible exact LeO.none _)
      | (with_reducible refine LeO.ite ?_ ?_)
      | (with_reducible refine LeO.bind ?_ (fun _ => ?_))
      | exact ih0 _ _ _ _ _ _ _
      | exact impl_MoveMirror.mono _ _ _
      | exact impl_MoveMul.mono _ _ _ _ _ _
      | exact impl_MoveStay.mono _ _
      | exact LeO.none _
      | refine LeO.ite ?_ ?_
      | refine LeO.bind ?_ (fun _ => ?_)
theorem impl_MoveOf.mono : ∀ a0 a1 k, LeO (impl_MoveOf.f k a0 a1) (impl_MoveOf.f (k + 1) a0 a1) := by
  intro a0 a1 k
  have ih0 := impl_MoveOf.mono_l k
  unfold impl_MoveOf.f
  repeat' first
      | (with_reducible exact ih0 _ _ _ _ _ _ _)
      | (with_reducible exact impl_MoveMirror.mono _ _ _)
      | (with_reducible exact impl_MoveMul.mono _ _ _ _ _ _)
      | (with_reducible exact impl_MoveStay.mono _ _)
      | (with_reducible exact LeO.refl _)
      | (with_reducible exact LeO.none _)
      | (with_reducible refine LeO.ite ?_ ?_)
      | (with_reducible refine LeO.bind ?_ (fun _ => ?_))
      | exact ih0 _ _ _ _ _ _ _
      | exact impl_MoveMirror.mono _ _ _
      | exact impl_MoveMul.mono _ _ _ _ _ _
      | exact impl_MoveStay.mono _ _
      | exact LeO.none _
      | refine LeO.ite ?_ ?_
      | refine LeO.bind ?_ (fun _ => ?_)
set_option maxHeartbeats 8000000 in
set_option maxRecDepth 100000 in
theorem impl_MoveOf.calls (k : Nat) (A0 : Option Addr) (c0 : Nat) (l0 : List Int) (A1 : Option Addr) (c1 : Nat) (l1 : List (List Int)) (r1 : List (List Int)) (r2 : Int) (r3 : Bool) (w : World) (hr0 : Kd.C (Kd.int .i64) w A0 l0.length l0) (hc0 : l0.length ≤ c0) (hr1 : Kd.C (Kd.slice 3 (Kd.int .i64)) w A1 l1.length l1) (hc1 : l1.length ≤ c1) (h : impl_MoveOf.f k l0 l1 = some (r1, r2, r3)) :
    Calls Try.prog 43 #[.slice A0 l0.length c0, .slice A1 l1.length c1] w fun e w' => ∃ v0_ : Value, e = .returned (.tuple #[.agg #[v0_, .int .i64 r2], .bool r3]) ∧ Kd.S (Kd.slice 3 (Kd.int .i64)) 23 w' w.heap.size (fun _ => True) v0_ r1 ∧ Below w.heap.size w w' := by
  have hu27 := Try.underlying27; have HR0 := Aside0.mk hr0; have HC0 := Aside0.mk hc0; clear hr0 hc0; have HR1 := Aside0.mk hr1; have HC1 := Aside0.mk hc1; clear hr1 hc1; have HB := Aside0.mk (Below.refl w.heap.size w); unfold impl_MoveOf.f at h; have H := h; clear h
  by_cases c3 : (l1.length : Int) > 6
  · rw [if_pos c3] at H
    have c3b0 : decide (6 < (l1.length : Int)) = true := decide_eq_true c3; have c3b1 : decide (6 < l1.length) = true := decide_eq_true (by omega); clear c3; simp only [Option.some.injEq, Prod.mk.injEq] at H; obtain ⟨rfl, rfl, rfl⟩ := H; go_enter Try.func43, Try.ntmps43
    go_wp2_with (first | ((with_reducible refine gate_dst (N := 4) rfl ?_); refine boxE (N := 4) (cs := #[.slice none 0 0, .int .i64 0]) (t := 27) ?_; intro gb354 hg w4 hbox hb; have BK354 := Aside0.mk (hbox); have GW354 := GS w hg; have GE354 := GS w hg; replace HB := BS hb; clear hb hbox hg; obtain ⟨hcz5_0, hcz5_1, hfz5_0, hfz5_1⟩ := bcf BK354))
    refine bodyPost_ret (results_ct rfl _ _ gb354 27 #[.slice none 0 0, .int .i64 0] (0, 0) _ rfl (by (with_reducible repeat (first | refine blk_drewN ?_ _ | refine blk_drew ?_ | refine blk_alloc ?_ _)); refine blk_put (cs := #[.slice none 0 0, .int .i64 0]) ?_ 1 _ rfl; (with_reducible repeat (first | refine blk_drewN ?_ _ | refine blk_drew ?_ | refine blk_alloc ?_ _)); refine blk_put (cs := #[.slice none 0 0, .int .i64 0]) ?_ 0 _ rfl; (with_reducible repeat (first | refine blk_drewN ?_ _ | refine blk_drew ?_ | refine blk_alloc ?_ _)); exact BK354.out) Try.underlying27 rfl (by kernel_rfl)) rfl ?_
    exact ⟨_, eR, by first | exact Kd.S_nil _ _ _ _ _ | exact Kd.N_nil _ _ _ _ _ | exact Kd.V_nil _ _ _ _ _ | exact Kd.Q_nil _ _ _ _ _ | exact Kd.R_nil _ _ _ _ _, BU⟩
  rw [if_neg c3] at H; have c3b0 : decide (6 < (l1.length : Int)) = false := decide_eq_false c3; have c3b1 : decide (6 < l1.length) = false := decide_eq_false (by omega); clear c3; obtain ⟨⟨t355, t358, t359⟩, A6, H⟩ := bnd H; replace H : (impl_MoveOf.l0 k l0 t359 l1 (l1.length : Int) 0 t355 t358) = some (r1, r2, r3) := H; have H' := Aside0.mk H; clear H; go_enter Try.func43, Try.ntmps43
  go_wp2_with (first | ((with_reducible refine gate_dst (N := 4) rfl ?_); refine boxE (N := 4) (cs := #[.slice none 0 0, .int .i64 0]) (t := 27) ?_; intro gb354 hg w7 hbox hb; have BK354 := Aside0.mk (hbox); have GW354 := GS w hg; have GE354 := GS w hg; replace HB := BS hb; clear hb hbox hg) | ((with_reducible refine gate_callee (f := 14) rfl ?_); refine goesK (some 18) Try.func14 #[.slice A0 l0.length c0] ?_; (with_reducible refine (impl_MoveStay.calls k _ _ l0 t355 t358 t359 _ ?side1 ?side2 A6.out).mono ?_); (case side1 => exact U (Kd.C_below HR0.out HB.out)); (case side2 => exact HC0.out); rintro e w8 ⟨v356, rfl, ho0, hb⟩; refine ⟨_, rfl, ?_⟩; have HO357 := Aside0.mk (Kd.S_lower ho0 (below_size BU)); replace BK354 := bB BK354 hb; replace HB := BS hb; (try clear hb); (try clear ho0)) | ((with_reducible refine gate_dst (N := 6) rfl ?_); refine boxE (N := 6) (cs := #[.slice none 0 0, .int .i64 0]) (t := 27) ?_; intro gb360 hg w9 hbox hb; replace HO357 := Aside0.mk (Kd.S_below (U HO357.out) hb); have BK360 := Aside0.mk (hbox); have GW360 := GS w hg; have GE360 := GS w hg; replace HB := BS hb; have NB354_360 := NL BK354 hg; have NB360_354 := NG BK354 hg; replace BK354 := bB BK354 hb; clear hb hbox hg; obtain ⟨Ao10, co10, eo10⟩ := Kd.S_slice HO357.out; subst eo10; have hnb11 := NB360_354.out; have hnc11 := NB354_360.out; obtain ⟨hcz12_0, hcz12_1, hfz12_0, hfz12_1⟩ := bcf BK360))
  go_loopg [7, 23] k (fun kq v7 v23 w' => ∃ (x7_1 : Bool) (x23_1 : Int) (x355001_1 : Int) (x361000_1 : List (List Int)) (x361001_1 : Int) (u361000 : Value), v7 = .bool x7_1 ∧ v23 = .int .i64 x23_1 ∧ Aside0 (impl_MoveOf.l0 kq l0 x7_1 l1 (l1.length : Int) x23_1 x361000_1 x361001_1 = some (r1, r2, r3)) ∧ Aside0 (kq ≤ k) ∧ Aside0 (Kd.S (Kd.slice 3 (Kd.int .i64)) 23 w' w.heap.size (fun _ => True) u361000 x361000_1) ∧ Aside0 (w'.heap[gb354]? = some (.cells #[(.slice none 0 0), .int .i64 x355001_1] 27 (0, 0))) ∧ Aside0 (w'.heap[gb360]? = some (.cells #[u361000, .int .i64 x361001_1] 27 (0, 0))) ∧ Aside0 (Below w.heap.size w w'))
  case atStart => exact ⟨(t359), (0), (0), (t355), (t358), (.slice Ao10 t355.length co10), sR, sR, H', ⟨Nat.le_refl _⟩, ⟨Kd.SM (Kd.S_far (p := ⟨gb360, 1, none⟩) (Kd.S_far (p := ⟨gb360, 0, none⟩) (Kd.S_types HO357.out BK360.out (by decide)) (fun _ hk => hk.2) (.slice Ao10 t355.length co10)) (fun _ hk => hk.2) (.int .i64 t358)) (fun _ hk => trivial)⟩, ⟨by (with_reducible repeat (first | refine blk_drewN ?_ _ | refine blk_drew ?_ | refine blk_alloc ?_ _)); refine blk_far ?_ NB354_360.out _; (with_reducible repeat (first | refine blk_drewN ?_ _ | refine blk_drew ?_ | refine blk_alloc ?_ _)); refine blk_far ?_ NB354_360.out _; (with_reducible repeat (first | refine blk_drewN ?_ _ | refine blk_drew ?_ | refine blk_alloc ?_ _)); exact BK354.out⟩, ⟨by (with_reducible repeat (first | refine blk_drewN ?_ _ | refine blk_drew ?_ | refine blk_alloc ?_ _)); refine blk_put (cs := #[.slice Ao10 t355.length co10, .int .i64 0]) ?_ 1 _ rfl; (with_reducible repeat (first | refine blk_drewN ?_ _ | refine blk_drew ?_ | refine blk_alloc ?_ _)); refine blk_put (cs := #[.slice none 0 0, .int .i64 0]) ?_ 0 _ rfl; (with_reducible repeat (first | refine blk_drewN ?_ _ | refine blk_drew ?_ | refine blk_alloc ?_ _)); exact BK360.out⟩, ⟨BU⟩⟩
  case round =>
    clear H'; (try clear c3); (try clear c3b0); (try clear c3b1); (try clear hcz12_0); (try clear hcz12_1); (try clear hfz12_0); (try clear hfz12_1); obtain ⟨x7_1, x23_1, x355001_1, x361000_1, x361001_1, u361000, rfl, rfl, HA, HK1, HO_361000, BK354, BK360, HB⟩ := hrel; cases gk with
    | zero => exact absurd HA.out (by simp [impl_MoveOf.l0])
    | succ k1 =>
      have H := HA.out; clear HA; simp only [impl_MoveOf.l0] at H
      by_cases c13 : x23_1 < (l1.length : Int)
      · rw [if_pos c13] at H
        have c13b0 : decide (x23_1 < (l1.length : Int)) = true := decide_eq_true c13; clear c13; obtain ⟨c14, H⟩ := ifN H; have c14b0 : decide (0 ≤ x23_1) = true := decide_eq_true c14; clear c14; obtain ⟨c15, H⟩ := ifN H; have c15b0 : decide (x23_1 < (l1.length : Int)) = true := decide_eq_true c15; clear c15; obtain ⟨⟨t362, t365, t366⟩, A16, H⟩ := bnd H; replace H : (if x7_1 = true then (if t366 = true then ((impl_MoveMul.f k1 l0 x361000_1 x361001_1 t362 t365).bind fun bt368 => (impl_MoveOf.l0 k1 l0 bt368.2.2 l1 (l1.length : Int) (wrap64 (x23_1 + 1)) bt368.1 bt368.2.1)) else (some (([] : List (List Int)), 0, false))) else (some (([] : List (List Int)), 0, false))) = some (r1, r2, r3) := H
        by_cases c17 : x7_1 = true
        · subst c17
          replace H := ifT H
          by_cases c18 : t366 = true
          · subst c18
            replace H := ifT H; obtain ⟨⟨t368, t371, t372⟩, A19, H⟩ := bnd H; replace H : (impl_MoveOf.l0 k1 l0 t372 l1 (l1.length : Int) (wrap64 (x23_1 + 1)) t368 t371) = some (r1, r2, r3) := H; have H' := Aside0.mk H; clear H; have p361 : 0 ≤ (x23_1 : Int) := oD; have q361 : x23_1 < (l1.length : Int) := oD; obtain ⟨ad361, A361_0, c361_0, e361, hx361_0, hl361_0, hi361_0⟩ := at_L1 HR1.out x23_1 p361 q361; cases e361; replace hx361_0 := (HB.out.cell (World.block_lt_of_cell? w _ hx361_0)).trans hx361_0; have HR361_0 := Aside0.mk hi361_0; have HC361_0 := Aside0.mk hl361_0; clear hi361_0 hl361_0; replace p361 := eq_true p361; replace q361 := eq_true q361
            go_wp2_with (first | ((with_reducible refine gate_callee (f := 17) rfl ?_); refine goesK (some 30) Try.func17 #[.slice A0 l0.length c0, .slice A361_0 (rd_L1 l1 x23_1).length c361_0] ?_; (with_reducible refine (impl_MoveMirror.calls k1 _ _ l0 _ _ (rd_L1 l1 x23_1) t362 t365 true _ ?side1 ?side2 ?side3 ?side4 A16.out).mono ?_); (case side1 => exact U (Kd.C_below HR0.out HB.out)); (case side2 => exact HC0.out); (case side3 => exact U (Kd.C_below HR361_0.out HB.out)); (case side4 => exact HC361_0.out); rintro e w20 ⟨v363, rfl, ho0, hb⟩; refine ⟨_, rfl, ?_⟩; have HO364 := Aside0.mk (Kd.S_lower (Kd.S_new' ho0 (Kd.S_lt (U HO_361000.out))) (below_size BU)); replace HO_361000 := Aside0.mk (Kd.S_elder' (U HO_361000.out) (Kd.S_base ho0) hb); replace BK354 := bB BK354 hb; replace BK360 := bB BK360 hb; replace HB := BS hb; (try clear hb); (try clear ho0)) | ((with_reducible refine gate_dst (N := 10) rfl ?_); refine boxE (N := 10) (cs := #[.slice none 0 0, .int .i64 0]) (t := 27) ?_; intro gb367 hg w21 hbox hb; replace HO_361000 := Aside0.mk (Kd.S_below (U HO_361000.out) hb); replace HO364 := Aside0.mk (Kd.S_below (U HO364.out) hb); have BK367 := Aside0.mk (hbox); have GW367 := GS w hg; have GE367 := GS w hg; replace HB := BS hb; have NB354_367 := NL BK354 hg; have NB367_354 := NG BK354 hg; replace BK354 := bB BK354 hb; have NB360_367 := NL BK360 hg; have NB367_360 := NG BK360 hg; replace BK360 := bB BK360 hb; clear hb hbox hg; obtain ⟨Ao22, co22, eo22⟩ := Kd.S_slice HO364.out; subst eo22; have hnb23 := NB367_354.out; have hnc23 := NB354_367.out; have hnb24 := NB367_360.out; have hnc24 := NB360_367.out; obtain ⟨hcz25_0, hcz25_1, hfz25_0, hfz25_1⟩ := bcf BK367; have hnb26 := NB360_354.out; have hnc26 := NB354_360.out; obtain ⟨hcz27_0, hcz27_1, hfz27_0, hfz27_1⟩ := bcf BK360; obtain ⟨Ao28, co28, eo28⟩ := Kd.S_slice HO_361000.out; subst eo28) | ((with_reducible refine gate_callee (f := 18) rfl ?_); refine goesK (some 44) Try.func18 #[.slice A0 l0.length c0, .agg #[.slice Ao28 x361000_1.length co28, .int .i64 x361001_1], .agg #[.slice Ao22 t362.length co22, .int .i64 t365]] ?_; (with_reducible refine (impl_MoveMul.calls k1 _ _ l0 _ _ x361000_1 x361001_1 _ _ t362 t365 t368 t371 t372 _ ?side1 ?side2 ?side3 ?side4 ?side5 ?side6 A19.out).mono ?_); (case side1 => exact Kd.C_below HR0.out BU); (case side2 => exact HC0.out); (case side3 => refine (Kd.S_reads' (e := 23) (base := w.heap.size) (ok := fun k_ => (True ∧ some k_ ≠ (.slice Ao22 t362.length co22 : Value).ownBlock)) (n := x361000_1.length) (c := co28) ?_).2.2; exact (Kd.SM (Kd.S_far (p := ⟨gb367, 1, none⟩) (Kd.S_far (p := ⟨gb367, 0, none⟩) (Kd.S_types HO_361000.out BK367.out (by decide)) (fun _ hk => hk.2) (.slice Ao22 t362.length co22)) (fun _ hk => hk.2) (.int .i64 t365)) (fun _ h_ => h_.1))); (case side4 => exact (Kd.S_reads' HO_361000.out).2.1); (case side5 => refine (Kd.S_reads' (e := 23) (base := w.heap.size) (ok := fun k_ => (True ∧ some k_ ≠ (.slice Ao28 x361000_1.length co28 : Value).ownBlock)) (n := t362.length) (c := co22) ?_).2.2; exact (Kd.SM (Kd.S_far (p := ⟨gb367, 1, none⟩) (Kd.S_far (p := ⟨gb367, 0, none⟩) (Kd.S_types HO364.out BK367.out (by decide)) (fun _ hk => hk.2) (.slice Ao22 t362.length co22)) (fun _ hk => hk.2) (.int .i64 t365)) (fun _ h_ => h_.1))); (case side6 => exact (Kd.S_reads' HO364.out).2.1); rintro e w29 ⟨v369, rfl, ho0, hb⟩; refine ⟨_, rfl, ?_⟩; have HO370 := Aside0.mk (Kd.S_lower (Kd.S_new' (Kd.S_new' ho0 (Kd.S_lt (Kd.SM (Kd.S_far (p := ⟨gb367, 1, none⟩) (Kd.S_far (p := ⟨gb367, 0, none⟩) (Kd.S_types HO_361000.out BK367.out (by decide)) (fun _ hk => hk.2) (.slice Ao22 t362.length co22)) (fun _ hk => hk.2) (.int .i64 t365)) (fun _ h_ => h_.1)))) (Kd.S_lt (Kd.SM (Kd.S_far (p := ⟨gb367, 1, none⟩) (Kd.S_far (p := ⟨gb367, 0, none⟩) (Kd.S_types HO364.out BK367.out (by decide)) (fun _ hk => hk.2) (.slice Ao22 t362.length co22)) (fun _ hk => hk.2) (.int .i64 t365)) (fun _ h_ => h_.1)))) (below_size BU)); replace HO_361000 := Aside0.mk (Kd.S_elder' (Kd.SM (Kd.S_far (p := ⟨gb367, 1, none⟩) (Kd.S_far (p := ⟨gb367, 0, none⟩) (Kd.S_types HO_361000.out BK367.out (by decide)) (fun _ hk => hk.2) (.slice Ao22 t362.length co22)) (fun _ hk => hk.2) (.int .i64 t365)) (fun _ h_ => h_.1)) (Kd.S_base ho0) hb); replace HO364 := Aside0.mk (Kd.S_elder' (Kd.SM (Kd.S_far (p := ⟨gb367, 1, none⟩) (Kd.S_far (p := ⟨gb367, 0, none⟩) (Kd.S_types HO364.out BK367.out (by decide)) (fun _ hk => hk.2) (.slice Ao22 t362.length co22)) (fun _ hk => hk.2) (.int .i64 t365)) (fun _ h_ => h_.1)) (Kd.S_base ho0) hb); replace BK354 := Aside0.mk (blk_below (g := gb354) (o := .cells #[.slice none 0 0, .int .i64 x355001_1] 27 (0, 0)) (by (with_reducible repeat (first | refine blk_drewN ?_ _ | refine blk_drew ?_ | refine blk_alloc ?_ _)); refine blk_far ?_ NB354_367.out _; (with_reducible repeat (first | refine blk_drewN ?_ _ | refine blk_drew ?_ | refine blk_alloc ?_ _)); refine blk_far ?_ NB354_367.out _; (with_reducible repeat (first | refine blk_drewN ?_ _ | refine blk_drew ?_ | refine blk_alloc ?_ _)); exact BK354.out) hb); replace BK360 := Aside0.mk (blk_below (g := gb360) (o := .cells #[.slice Ao28 x361000_1.length co28, .int .i64 x361001_1] 27 (0, 0)) (by (with_reducible repeat (first | refine blk_drewN ?_ _ | refine blk_drew ?_ | refine blk_alloc ?_ _)); refine blk_far ?_ NB360_367.out _; (with_reducible repeat (first | refine blk_drewN ?_ _ | refine blk_drew ?_ | refine blk_alloc ?_ _)); refine blk_far ?_ NB360_367.out _; (with_reducible repeat (first | refine blk_drewN ?_ _ | refine blk_drew ?_ | refine blk_alloc ?_ _)); exact BK360.out) hb); replace BK367 := Aside0.mk (blk_below (g := gb367) (o := .cells #[.slice Ao22 t362.length co22, .int .i64 t365] 27 (0, 0)) (by (with_reducible repeat (first | refine blk_drewN ?_ _ | refine blk_drew ?_ | refine blk_alloc ?_ _)); refine blk_put (cs := #[.slice Ao22 t362.length co22, .int .i64 0]) ?_ 1 _ rfl; (with_reducible repeat (first | refine blk_drewN ?_ _ | refine blk_drew ?_ | refine blk_alloc ?_ _)); refine blk_put (cs := #[.slice none 0 0, .int .i64 0]) ?_ 0 _ rfl; (with_reducible repeat (first | refine blk_drewN ?_ _ | refine blk_drew ?_ | refine blk_alloc ?_ _)); exact BK367.out) hb); replace HB := BS hb; (try clear hb); (try clear ho0); obtain ⟨Ao30, co30, eo30⟩ := Kd.S_slice HO370.out; subst eo30; obtain ⟨hcz31_0, hcz31_1, hfz31_0, hfz31_1⟩ := bcf BK360))
            go_roundg k1
            case measure => have := HK1.out; omega
            case rel => exact ⟨(t372), (wrap64 (x23_1 + 1)), (x355001_1), (t368), (t371), (.slice Ao30 t368.length co30), sR, sR, H', ⟨by have := HK1.out; omega⟩, ⟨Kd.SM (Kd.S_far (p := ⟨gb360, 1, none⟩) (Kd.S_far (p := ⟨gb360, 0, none⟩) (Kd.S_types HO370.out BK360.out (by decide)) (fun _ hk => hk.2) (.slice Ao30 t368.length co30)) (fun _ hk => hk.2) (.int .i64 t371)) (fun _ hk => trivial)⟩, ⟨by (with_reducible repeat (first | refine blk_drewN ?_ _ | refine blk_drew ?_ | refine blk_alloc ?_ _)); refine blk_far ?_ NB354_360.out _; (with_reducible repeat (first | refine blk_drewN ?_ _ | refine blk_drew ?_ | refine blk_alloc ?_ _)); refine blk_far ?_ NB354_360.out _; (with_reducible repeat (first | refine blk_drewN ?_ _ | refine blk_drew ?_ | refine blk_alloc ?_ _)); exact BK354.out⟩, ⟨by (with_reducible repeat (first | refine blk_drewN ?_ _ | refine blk_drew ?_ | refine blk_alloc ?_ _)); refine blk_put (cs := #[.slice Ao30 t368.length co30, .int .i64 x361001_1]) ?_ 1 _ rfl; (with_reducible repeat (first | refine blk_drewN ?_ _ | refine blk_drew ?_ | refine blk_alloc ?_ _)); refine blk_put (cs := #[.slice Ao28 x361000_1.length co28, .int .i64 x361001_1]) ?_ 0 _ rfl; (with_reducible repeat (first | refine blk_drewN ?_ _ | refine blk_drew ?_ | refine blk_alloc ?_ _)); exact BK360.out⟩, ⟨BU⟩⟩
          replace c18 := Bool.eq_false_iff.mpr c18; subst c18; replace H := ifF H; simp only [Option.some.injEq, Prod.mk.injEq] at H; obtain ⟨rfl, rfl, rfl⟩ := H; have p361 : 0 ≤ (x23_1 : Int) := oD; have q361 : x23_1 < (l1.length : Int) := oD; obtain ⟨ad361, A361_0, c361_0, e361, hx361_0, hl361_0, hi361_0⟩ := at_L1 HR1.out x23_1 p361 q361; cases e361; replace hx361_0 := (HB.out.cell (World.block_lt_of_cell? w _ hx361_0)).trans hx361_0; have HR361_0 := Aside0.mk hi361_0; have HC361_0 := Aside0.mk hl361_0; clear hi361_0 hl361_0; replace p361 := eq_true p361; replace q361 := eq_true q361
          go_wp2_with (first | ((with_reducible refine gate_callee (f := 17) rfl ?_); refine goesK (some 30) Try.func17 #[.slice A0 l0.length c0, .slice A361_0 (rd_L1 l1 x23_1).length c361_0] ?_; (with_reducible refine (impl_MoveMirror.calls k1 _ _ l0 _ _ (rd_L1 l1 x23_1) t362 t365 false _ ?side1 ?side2 ?side3 ?side4 A16.out).mono ?_); (case side1 => exact U (Kd.C_below HR0.out HB.out)); (case side2 => exact HC0.out); (case side3 => exact U (Kd.C_below HR361_0.out HB.out)); (case side4 => exact HC361_0.out); rintro e w32 ⟨v363, rfl, ho0, hb⟩; refine ⟨_, rfl, ?_⟩; have HO364 := Aside0.mk (Kd.S_lower (Kd.S_new' ho0 (Kd.S_lt (U HO_361000.out))) (below_size BU)); replace HO_361000 := Aside0.mk (Kd.S_elder' (U HO_361000.out) (Kd.S_base ho0) hb); replace BK354 := bB BK354 hb; replace BK360 := bB BK360 hb; replace HB := BS hb; (try clear hb); (try clear ho0)) | ((with_reducible refine gate_dst (N := 10) rfl ?_); refine boxE (N := 10) (cs := #[.slice none 0 0, .int .i64 0]) (t := 27) ?_; intro gb367 hg w33 hbox hb; replace HO_361000 := Aside0.mk (Kd.S_below (U HO_361000.out) hb); replace HO364 := Aside0.mk (Kd.S_below (U HO364.out) hb); have BK367 := Aside0.mk (hbox); have GW367 := GS w hg; have GE367 := GS w hg; replace HB := BS hb; have NB354_367 := NL BK354 hg; have NB367_354 := NG BK354 hg; replace BK354 := bB BK354 hb; have NB360_367 := NL BK360 hg; have NB367_360 := NG BK360 hg; replace BK360 := bB BK360 hb; clear hb hbox hg; obtain ⟨Ao34, co34, eo34⟩ := Kd.S_slice HO364.out; subst eo34; have hnb35 := NB367_354.out; have hnc35 := NB354_367.out; have hnb36 := NB367_360.out; have hnc36 := NB360_367.out; obtain ⟨hcz37_0, hcz37_1, hfz37_0, hfz37_1⟩ := bcf BK367; have hnb38 := NB354_360.out; have hnc38 := NB360_354.out; obtain ⟨hcz39_0, hcz39_1, hfz39_0, hfz39_1⟩ := bcf BK354))
          refine bodyPost_ret (results_ct rfl _ _ gb354 27 #[.slice none 0 0, .int .i64 0] (0, 0) _ rfl (by (with_reducible repeat (first | refine blk_drewN ?_ _ | refine blk_drew ?_ | refine blk_alloc ?_ _)); refine blk_put (cs := #[.slice none 0 0, .int .i64 x355001_1]) ?_ 1 _ rfl; (with_reducible repeat (first | refine blk_drewN ?_ _ | refine blk_drew ?_ | refine blk_alloc ?_ _)); refine blk_put (cs := #[.slice none 0 0, .int .i64 x355001_1]) ?_ 0 _ rfl; (with_reducible repeat (first | refine blk_drewN ?_ _ | refine blk_drew ?_ | refine blk_alloc ?_ _)); refine blk_far ?_ NB354_367.out _; (with_reducible repeat (first | refine blk_drewN ?_ _ | refine blk_drew ?_ | refine blk_alloc ?_ _)); refine blk_far ?_ NB354_367.out _; (with_reducible repeat (first | refine blk_drewN ?_ _ | refine blk_drew ?_ | refine blk_alloc ?_ _)); exact BK354.out) Try.underlying27 rfl (by kernel_rfl)) rfl ?_
          exact ⟨_, eR, by first | exact Kd.S_nil _ _ _ _ _ | exact Kd.N_nil _ _ _ _ _ | exact Kd.V_nil _ _ _ _ _ | exact Kd.Q_nil _ _ _ _ _ | exact Kd.R_nil _ _ _ _ _, BU⟩
        replace c17 := Bool.eq_false_iff.mpr c17; subst c17; replace H := ifF H; simp only [Option.some.injEq, Prod.mk.injEq] at H; obtain ⟨rfl, rfl, rfl⟩ := H; have p361 : 0 ≤ (x23_1 : Int) := oD; have q361 : x23_1 < (l1.length : Int) := oD; obtain ⟨ad361, A361_0, c361_0, e361, hx361_0, hl361_0, hi361_0⟩ := at_L1 HR1.out x23_1 p361 q361; cases e361; replace hx361_0 := (HB.out.cell (World.block_lt_of_cell? w _ hx361_0)).trans hx361_0; have HR361_0 := Aside0.mk hi361_0; have HC361_0 := Aside0.mk hl361_0; clear hi361_0 hl361_0; replace p361 := eq_true p361; replace q361 := eq_true q361
        go_wp2_with (first | ((with_reducible refine gate_callee (f := 17) rfl ?_); refine goesK (some 30) Try.func17 #[.slice A0 l0.length c0, .slice A361_0 (rd_L1 l1 x23_1).length c361_0] ?_; (with_reducible refine (impl_MoveMirror.calls k1 _ _ l0 _ _ (rd_L1 l1 x23_1) t362 t365 t366 _ ?side1 ?side2 ?side3 ?side4 A16.out).mono ?_); (case side1 => exact U (Kd.C_below HR0.out HB.out)); (case side2 => exact HC0.out); (case side3 => exact U (Kd.C_below HR361_0.out HB.out)); (case side4 => exact HC361_0.out); rintro e w40 ⟨v363, rfl, ho0, hb⟩; refine ⟨_, rfl, ?_⟩; have HO364 := Aside0.mk (Kd.S_lower (Kd.S_new' ho0 (Kd.S_lt (U HO_361000.out))) (below_size BU)); replace HO_361000 := Aside0.mk (Kd.S_elder' (U HO_361000.out) (Kd.S_base ho0) hb); replace BK354 := bB BK354 hb; replace BK360 := bB BK360 hb; replace HB := BS hb; (try clear hb); (try clear ho0)) | ((with_reducible refine gate_dst (N := 10) rfl ?_); refine boxE (N := 10) (cs := #[.slice none 0 0, .int .i64 0]) (t := 27) ?_; intro gb367 hg w41 hbox hb; replace HO_361000 := Aside0.mk (Kd.S_below (U HO_361000.out) hb); replace HO364 := Aside0.mk (Kd.S_below (U HO364.out) hb); have BK367 := Aside0.mk (hbox); have GW367 := GS w hg; have GE367 := GS w hg; replace HB := BS hb; have NB354_367 := NL BK354 hg; have NB367_354 := NG BK354 hg; replace BK354 := bB BK354 hb; have NB360_367 := NL BK360 hg; have NB367_360 := NG BK360 hg; replace BK360 := bB BK360 hb; clear hb hbox hg; obtain ⟨Ao42, co42, eo42⟩ := Kd.S_slice HO364.out; subst eo42; have hnb43 := NB367_354.out; have hnc43 := NB354_367.out; have hnb44 := NB367_360.out; have hnc44 := NB360_367.out; obtain ⟨hcz45_0, hcz45_1, hfz45_0, hfz45_1⟩ := bcf BK367; have hnb46 := NB354_360.out; have hnc46 := NB360_354.out; obtain ⟨hcz47_0, hcz47_1, hfz47_0, hfz47_1⟩ := bcf BK354))
        refine bodyPost_ret (results_ct rfl _ _ gb354 27 #[.slice none 0 0, .int .i64 0] (0, 0) _ rfl (by (with_reducible repeat (first | refine blk_drewN ?_ _ | refine blk_drew ?_ | refine blk_alloc ?_ _)); refine blk_put (cs := #[.slice none 0 0, .int .i64 x355001_1]) ?_ 1 _ rfl; (with_reducible repeat (first | refine blk_drewN ?_ _ | refine blk_drew ?_ | refine blk_alloc ?_ _)); refine blk_put (cs := #[.slice none 0 0, .int .i64 x355001_1]) ?_ 0 _ rfl; (with_reducible repeat (first | refine blk_drewN ?_ _ | refine blk_drew ?_ | refine blk_alloc ?_ _)); refine blk_far ?_ NB354_367.out _; (with_reducible repeat (first | refine blk_drewN ?_ _ | refine blk_drew ?_ | refine blk_alloc ?_ _)); refine blk_far ?_ NB354_367.out _; (with_reducible repeat (first | refine blk_drewN ?_ _ | refine blk_drew ?_ | refine blk_alloc ?_ _)); exact BK354.out) Try.underlying27 rfl (by kernel_rfl)) rfl ?_
        exact ⟨_, eR, by first | exact Kd.S_nil _ _ _ _ _ | exact Kd.N_nil _ _ _ _ _ | exact Kd.V_nil _ _ _ _ _ | exact Kd.Q_nil _ _ _ _ _ | exact Kd.R_nil _ _ _ _ _, BU⟩
      rw [if_neg c13] at H; have c13b0 : decide (x23_1 < (l1.length : Int)) = false := decide_eq_false c13; clear c13
      by_cases c48 : x7_1 = true
      · subst c48
        replace H := ifT H; simp only [Option.some.injEq, Prod.mk.injEq] at H; obtain ⟨rfl, rfl, rfl⟩ := H; have hnb49 := NB360_354.out; have hnc49 := NB354_360.out; obtain ⟨hcz50_0, hcz50_1, hfz50_0, hfz50_1⟩ := bcf BK360; obtain ⟨Ao51, co51, eo51⟩ := Kd.S_slice HO_361000.out; subst eo51; obtain ⟨hcz52_0, hcz52_1, hfz52_0, hfz52_1⟩ := bcf BK354
        go_wp2
        refine bodyPost_ret (results_ct rfl _ _ gb354 27 #[.slice Ao51 x361000_1.length co51, .int .i64 x361001_1] (0, 0) _ rfl (by (with_reducible repeat (first | refine blk_drewN ?_ _ | refine blk_drew ?_ | refine blk_alloc ?_ _)); refine blk_put (cs := #[.slice Ao51 x361000_1.length co51, .int .i64 x355001_1]) ?_ 1 _ rfl; (with_reducible repeat (first | refine blk_drewN ?_ _ | refine blk_drew ?_ | refine blk_alloc ?_ _)); refine blk_put (cs := #[.slice none 0 0, .int .i64 x355001_1]) ?_ 0 _ rfl; (with_reducible repeat (first | refine blk_drewN ?_ _ | refine blk_drew ?_ | refine blk_alloc ?_ _)); exact BK354.out) Try.underlying27 rfl (by kernel_rfl)) rfl ?_
        exact ⟨_, eR, Kd.SM (Kd.S_far (p := ⟨gb354, 1, none⟩) (Kd.S_far (p := ⟨gb354, 0, none⟩) (Kd.S_types HO_361000.out BK354.out (by decide)) (fun _ hk => hk.2) (.slice Ao51 x361000_1.length co51)) (fun _ hk => hk.2) (.int .i64 x361001_1)) (fun _ hk => trivial), BU⟩
      replace c48 := Bool.eq_false_iff.mpr c48; subst c48; replace H := ifF H; simp only [Option.some.injEq, Prod.mk.injEq] at H; obtain ⟨rfl, rfl, rfl⟩ := H; have hnb53 := NB354_360.out; have hnc53 := NB360_354.out; obtain ⟨hcz54_0, hcz54_1, hfz54_0, hfz54_1⟩ := bcf BK354
      go_wp2
      refine bodyPost_ret (results_ct rfl _ _ gb354 27 #[.slice none 0 0, .int .i64 0] (0, 0) _ rfl (by (with_reducible repeat (first | refine blk_drewN ?_ _ | refine blk_drew ?_ | refine blk_alloc ?_ _)); refine blk_put (cs := #[.slice none 0 0, .int .i64 x355001_1]) ?_ 1 _ rfl; (with_reducible repeat (first | refine blk_drewN ?_ _ | refine blk_drew ?_ | refine blk_alloc ?_ _)); refine blk_put (cs := #[.slice none 0 0, .int .i64 x355001_1]) ?_ 0 _ rfl; (with_reducible repeat (first | refine blk_drewN ?_ _ | refine blk_drew ?_ | refine blk_alloc ?_ _)); exact BK354.out) Try.underlying27 rfl (by kernel_rfl)) rfl ?_
      exact ⟨_, eR, by first | exact Kd.S_nil _ _ _ _ _ | exact Kd.N_nil _ _ _ _ _ | exact Kd.V_nil _ _ _ _ _ | exact Kd.Q_nil _ _ _ _ _ | exact Kd.R_nil _ _ _ _ _, BU⟩

/-! ### spec_l6In: function 86 -/
def spec_l6In.f (a0 : Int) (a1 : Int) (a2 : Int) : Option (Bool) := if a0 ≥ a1 then (some (decide (a0 ≤ a2))) else (some false)
set_option maxHeartbeats 8000000 in
set_option maxRecDepth 100000 in
theorem spec_l6In.calls (a0 : Int) (a1 : Int) (a2 : Int) (r : Bool) (w : World) (h : spec_l6In.f a0 a1 a2 = some r) :
    Calls Try.prog 86 #[.int .i64 a0, .int .i64 a1, .int .i64 a2] w fun e w' => e = .returned (.bool r) ∧ Drawn0 w w' := by
  unfold spec_l6In.f at h; have H := h; clear h
  by_cases c4 : a0 ≥ a1
  · rw [if_pos c4] at H
    have c4b0 : decide (a1 ≤ a0) = true := decide_eq_true c4; clear c4; obtain rfl := Option.some.inj H; go_enter Try.func86, Try.ntmps86
    go_wp2
    go_ret
    exact ⟨by first | rfl | (simp; done) | (simp [*]; done), by repeat (first | exact Drawn0.refl _ | apply Drawn0.step)⟩
  rw [if_neg c4] at H; have c4b0 : decide (a1 ≤ a0) = false := decide_eq_false c4; clear c4; obtain rfl := Option.some.inj H; go_enter Try.func86, Try.ntmps86
  go_wp2
  go_ret
  exact ⟨by first | rfl | (simp; done) | (simp [*]; done), by repeat (first | exact Drawn0.refl _ | apply Drawn0.step)⟩

/-! ### spec_FormValid: function 85 -/
def spec_FormValid.l0 : Nat → List Int → Int → Option (Bool)
  | 0, _, _ => none
  | k + 1, x0, x3 => if x3 < (x0.length : Int) then (if 0 ≤ x3 then (if (rd x0 x3) = 0 then (some false) else ((spec_l6In.f (rd x0 x3) (-30) 30).bind fun t375 => (if t375 = true then (spec_FormValid.l0 k x0 (wrap64 (x3 + 1))) else (some false)))) else (none)) else ((spec_l6In.f (x0.length : Int) 1 4).bind fun t376 => (some t376))
def spec_FormValid.f (k : Nat) (l0 : List Int) : Option (Bool) := spec_FormValid.l0 k l0 0
theorem spec_FormValid.mono_l : ∀ k, (∀ y0 y1, LeO (spec_FormValid.l0 k y0 y1) (spec_FormValid.l0 (k + 1) y0 y1))
  | 0 => fun _ _ r h => by simp [spec_FormValid.l0] at h
  | k + 1 => by
    have ih0 := spec_FormValid.mono_l k
    · intro y0 y1
      unfold spec_FormValid.l0
      repeat' first
      | (with_reducible exact ih0 _ _)
      | (with_reducible exact LeO.refl _)
      | (with_reducible exact LeO.none _)
      | (with_reducible refine LeO.ite ?_ ?_)
      | (with_reducible refine LeO.bind ?_ (fun _ => ?_))
      | exact ih0 _ _
      | exact LeO.none _
      | refine LeO.ite ?_ ?_
      | refine LeO.bind ?_ (fun _ => ?_)
theorem spec_FormValid.mono : ∀ a0 k, LeO (spec_FormValid.f k a0) (spec_FormValid.f (k + 1) a0) := by
  intro a0 k
  have ih0 := spec_FormValid.mono_l k
  unfold spec_FormValid.f
  repeat' first
      | (with_reducible exact ih0 _ _)
      | (with_reducible exact LeO.refl _)
      | (with_reducible exact LeO.none _)
      | (with_reducible refine LeO.ite ?_ ?_)
      | (with_reducible refine LeO.bind ?_ (fun _ => ?_))
      | exact ih0 _ _
      | exact LeO.none _
      | refine LeO.ite ?_ ?_
      | refine LeO.bind ?_ (fun _ => ?_)
set_option maxHeartbeats 8000000 in
set_option maxRecDepth 100000 in
theorem spec_FormValid.calls (k : Nat) (A0 : Option Addr) (c0 : Nat) (l0 : List Int) (r : Bool) (w : World) (hr0 : Kd.C (Kd.int .i64) w A0 l0.length l0) (hc0 : l0.length ≤ c0) (h : spec_FormValid.f k l0 = some r) :
    Calls Try.prog 85 #[.slice A0 l0.length c0] w fun e w' => e = .returned (.bool r) ∧ Drawn0 w w' := by
  have HR0 := Aside0.mk hr0; have HC0 := Aside0.mk hc0; clear hr0 hc0; unfold spec_FormValid.f at h; have H := h; clear h; have H' := Aside0.mk H; clear H; go_enter Try.func85, Try.ntmps85
  go_wp2
  go_loopg [3] k (fun kq v3 w' => ∃ (x3_1 : Int), v3 = .int .i64 x3_1 ∧ Aside0 (spec_FormValid.l0 kq l0 x3_1 = some r) ∧ Aside0 (kq ≤ k) ∧ Drawn0 w w')
  case atStart => exact ⟨(0), sR, H', ⟨Nat.le_refl _⟩, by repeat (first | exact Drawn0.refl _ | apply Drawn0.step)⟩
  case round =>
    clear H'; obtain ⟨x3_1, rfl, HA, HK1, ⟨m1, rfl⟩⟩ := hrel; cases gk with
    | zero => exact absurd HA.out (by simp [spec_FormValid.l0])
    | succ k1 =>
      have H := HA.out; clear HA; simp only [spec_FormValid.l0] at H
      by_cases c2 : x3_1 < (l0.length : Int)
      · rw [if_pos c2] at H
        have c2b0 : decide (x3_1 < (l0.length : Int)) = true := decide_eq_true c2; clear c2; obtain ⟨c3, H⟩ := ifN H; have c3b0 : decide (0 ≤ x3_1) = true := decide_eq_true c3; clear c3
        by_cases c4 : (rd l0 x3_1) = 0
        · rw [if_pos c4] at H
          have c4b0 : ((rd l0 x3_1) == 0) = true := beq_iff_eq.mpr c4; have c4b1 : ((rd l0 x3_1) != 0) = false := bne_eq_false_iff_eq.mpr c4; clear c4; obtain rfl := Option.some.inj H; have p373 : 0 ≤ (x3_1 : Int) := oD; have q373 : x3_1 < (l0.length : Int) := oD; obtain ⟨ad373, e373, hx373_0⟩ := Kd.at_int HR0.out x3_1 p373 q373; cases e373; replace p373 := eq_true p373; replace q373 := eq_true q373
          go_wp2
          go_ret
          exact ⟨by first | rfl | (simp; done) | (simp [*]; done), by repeat (first | exact Drawn0.refl _ | apply Drawn0.step)⟩
        rw [if_neg c4] at H; have c4b0 : ((rd l0 x3_1) == 0) = false := beq_eq_false_iff_ne.mpr c4; have c4b1 : ((rd l0 x3_1) != 0) = true := bne_iff_ne.mpr c4; obtain ⟨t375, A5, H⟩ := bnd H
        by_cases c6 : t375 = true
        · subst c6
          replace H := ifT H; have H' := Aside0.mk H; clear H; have p373 : 0 ≤ (x3_1 : Int) := oD; have q373 : x3_1 < (l0.length : Int) := oD; obtain ⟨ad373, e373, hx373_0⟩ := Kd.at_int HR0.out x3_1 p373 q373; cases e373; replace p373 := eq_true p373; replace q373 := eq_true q373; have p374 : 0 ≤ (x3_1 : Int) := oD; have q374 : x3_1 < (l0.length : Int) := oD; obtain ⟨ad374, e374, hx374_0⟩ := Kd.at_int HR0.out x3_1 p374 q374; obtain rfl : ad373 = ad374 := (by injection e374); replace p374 := eq_true p374; replace q374 := eq_true q374
          go_wp2_with (first | (go_at_call 86; (with_reducible refine (spec_l6In.calls (rd l0 x3_1) (-30) 30 true _ A5.out).mono ?_); rintro e w' ⟨rfl, ⟨nd, rfl⟩⟩))
          go_roundg k1
          case measure => have := HK1.out; omega
          case rel => exact ⟨(wrap64 (x3_1 + 1)), sR, H', ⟨by have := HK1.out; omega⟩, by repeat (first | exact Drawn0.refl _ | apply Drawn0.step)⟩
        replace c6 := Bool.eq_false_iff.mpr c6; subst c6; replace H := ifF H; obtain rfl := Option.some.inj H; have p373 : 0 ≤ (x3_1 : Int) := oD; have q373 : x3_1 < (l0.length : Int) := oD; obtain ⟨ad373, e373, hx373_0⟩ := Kd.at_int HR0.out x3_1 p373 q373; cases e373; replace p373 := eq_true p373; replace q373 := eq_true q373; have p374 : 0 ≤ (x3_1 : Int) := oD; have q374 : x3_1 < (l0.length : Int) := oD; obtain ⟨ad374, e374, hx374_0⟩ := Kd.at_int HR0.out x3_1 p374 q374; obtain rfl : ad373 = ad374 := (by injection e374); replace p374 := eq_true p374; replace q374 := eq_true q374
        go_wp2_with (first | (go_at_call 86; (with_reducible refine (spec_l6In.calls (rd l0 x3_1) (-30) 30 false _ A5.out).mono ?_); rintro e w' ⟨rfl, ⟨nd, rfl⟩⟩))
        go_ret
        exact ⟨by first | rfl | (simp; done) | (simp [*]; done), by repeat (first | exact Drawn0.refl _ | apply Drawn0.step)⟩
      rw [if_neg c2] at H; have c2b0 : decide (x3_1 < (l0.length : Int)) = false := decide_eq_false c2; clear c2; obtain ⟨t376, A7, H⟩ := bnd H; obtain rfl := Option.some.inj H
      go_wp2_with (first | ((with_reducible refine gate_callee (f := 86) rfl ?_); refine goesK (some 25) Try.func86 #[.int .i64 (l0.length : Int), .int .i64 1, .int .i64 4] ?_; (with_reducible refine (spec_l6In.calls (l0.length : Int) 1 4 t376 _ A7.out).mono ?_); rintro e w' ⟨rfl, ⟨nd, rfl⟩⟩; refine ⟨_, rfl, ?_⟩))
      go_ret
      exact ⟨by first | rfl | (simp; done) | (simp [*]; done), by repeat (first | exact Drawn0.refl _ | apply Drawn0.step)⟩

/-! ### spec_l7Form: function 54 -/
def spec_l7Form.f (k : Nat) (l0 : List Int) : Option (Bool) := (spec_FormValid.f k l0).bind fun t377 => (if t377 = true then (some (decide ((l0.length : Int) ≤ 3))) else (some false))
theorem spec_l7Form.mono : ∀ a0 k, LeO (spec_l7Form.f k a0) (spec_l7Form.f (k + 1) a0) := by
  intro a0 k
  unfold spec_l7Form.f
  repeat' first
      | (with_reducible exact spec_FormValid.mono _ _)
      | (with_reducible exact LeO.refl _)
      | (with_reducible exact LeO.none _)
      | (with_reducible refine LeO.ite ?_ ?_)
      | (with_reducible refine LeO.bind ?_ (fun _ => ?_))
      | exact spec_FormValid.mono _ _
      | exact LeO.none _
      | refine LeO.ite ?_ ?_
      | refine LeO.bind ?_ (fun _ => ?_)
set_option maxHeartbeats 8000000 in
set_option maxRecDepth 100000 in
theorem spec_l7Form.calls (k : Nat) (A0 : Option Addr) (c0 : Nat) (l0 : List Int) (r : Bool) (w : World) (hr0 : Kd.C (Kd.int .i64) w A0 l0.length l0) (hc0 : l0.length ≤ c0) (h : spec_l7Form.f k l0 = some r) :
    Calls Try.prog 54 #[.slice A0 l0.length c0] w fun e w' => e = .returned (.bool r) ∧ Drawn0 w w' := by
  have HR0 := Aside0.mk hr0; have HC0 := Aside0.mk hc0; clear hr0 hc0; unfold spec_l7Form.f at h; have H := h; clear h; obtain ⟨t377, A2, H⟩ := bnd H
  by_cases c3 : t377 = true
  · subst c3
    replace H := ifT H; obtain rfl := Option.some.inj H; go_enter Try.func54, Try.ntmps54
    go_wp2_with (first | ((with_reducible refine gate_callee (f := 85) rfl ?_); refine goesK (some 4) Try.func85 #[.slice A0 l0.length c0] ?_; (with_reducible refine (spec_FormValid.calls k _ _ l0 true _ ?side1 ?side2 A2.out).mono ?_); (case side1 => exact U HR0.out); (case side2 => exact HC0.out); rintro e w' ⟨rfl, ⟨nd, rfl⟩⟩; refine ⟨_, rfl, ?_⟩))
    go_ret
    exact ⟨by first | rfl | (simp; done) | (simp [*]; done), by repeat (first | exact Drawn0.refl _ | apply Drawn0.step)⟩
  replace c3 := Bool.eq_false_iff.mpr c3; subst c3; replace H := ifF H; obtain rfl := Option.some.inj H; go_enter Try.func54, Try.ntmps54
  go_wp2_with (first | ((with_reducible refine gate_callee (f := 85) rfl ?_); refine goesK (some 4) Try.func85 #[.slice A0 l0.length c0] ?_; (with_reducible refine (spec_FormValid.calls k _ _ l0 false _ ?side1 ?side2 A2.out).mono ?_); (case side1 => exact U HR0.out); (case side2 => exact HC0.out); rintro e w' ⟨rfl, ⟨nd, rfl⟩⟩; refine ⟨_, rfl, ?_⟩))
  go_ret
  exact ⟨by first | rfl | (simp; done) | (simp [*]; done), by repeat (first | exact Drawn0.refl _ | apply Drawn0.step)⟩

/-! ### spec_l1Size: function 80 -/
def spec_l1Size.f (a0 : Int) : Option (Int) := some (mx a0 (wrap64 (-a0)))
set_option maxHeartbeats 8000000 in
set_option maxRecDepth 100000 in
theorem spec_l1Size.calls (a0 : Int) (r : Int) (w : World) (h : spec_l1Size.f a0 = some r) :
    Calls Try.prog 80 #[.int .i64 a0] w fun e w' => e = .returned (.int .i64 r) ∧ Below w.heap.size w w' := by
  have HB := Aside0.mk (Below.refl w.heap.size w); unfold spec_l1Size.f at h; have H := h; clear h; obtain ⟨ji2, hji2⟩ : ∃ j_ : Int, (mx a0 (wrap64 (-a0))) = j_ := ⟨_, rfl⟩
  replace H : (some ji2) = some r := by first | (rw [hji2] at H; exact H) | (simp only [hji2] at H ⊢; exact H)
  have hji2_ : (if a0 < (wrap64 (-a0)) then (wrap64 (-a0)) else a0) = ji2 := hji2; obtain rfl := Option.some.inj H; go_enter Try.func80, Try.ntmps80
  go_wp2
  go_ret
  exact ⟨by first | rfl | (simp [errW_none, errW_some] <;> rfl) | (simp only [← hji2]; first | rfl | (simp [errW_none, errW_some] <;> rfl)) | (simp [*, errW_none, errW_some] <;> rfl), BU⟩

/-! ### spec_l1Gcd: function 87 -/
def spec_l1Gcd.l0 : Nat → Int → Int → Option (Int)
  | 0, _, _ => none
  | k + 1, x0, x1 => if x1 = 0 then (some x0) else (spec_l1Gcd.l0 k x1 (Int.tmod x0 x1))
def spec_l1Gcd.f (k : Nat) (a0 : Int) (a1 : Int) : Option (Int) := (spec_l1Size.f a0).bind fun t378 => ((spec_l1Size.f a1).bind fun t379 => (spec_l1Gcd.l0 k t378 t379))
theorem spec_l1Gcd.mono_l : ∀ k, (∀ y0 y1, LeO (spec_l1Gcd.l0 k y0 y1) (spec_l1Gcd.l0 (k + 1) y0 y1))
  | 0 => fun _ _ r h => by simp [spec_l1Gcd.l0] at h
  | k + 1 => by
    have ih0 := spec_l1Gcd.mono_l k
    · intro y0 y1
      unfold spec_l1Gcd.l0
      repeat' first
      | (with_reducible exact ih0 _ _)
      | (with_reducible exact LeO.refl _)
      | (with_reducible exact LeO.none _)
      | (with_reducible refine LeO.ite ?_ ?_)
      | (with_reducible refine LeO.bind ?_ (fun _ => ?_))
      | exact ih0 _ _
      | exact LeO.none _
      | refine LeO.ite ?_ ?_
      | refine LeO.bind ?_ (fun _ => ?_)
theorem spec_l1Gcd.mono : ∀ a0 a1 k, LeO (spec_l1Gcd.f k a0 a1) (spec_l1Gcd.f (k + 1) a0 a1) := by
  intro a0 a1 k
  have ih0 := spec_l1Gcd.mono_l k
  unfold spec_l1Gcd.f
  repeat' first
      | (with_reducible exact ih0 _ _)
      | (with_reducible exact LeO.refl _)
      | (with_reducible exact LeO.none _)
      | (with_reducible refine LeO.ite ?_ ?_)
      | (with_reducible refine LeO.bind ?_ (fun _ => ?_))
      | exact ih0 _ _
      | exact LeO.none _
      | refine LeO.ite ?_ ?_
      | refine LeO.bind ?_ (fun _ => ?_)
set_option maxHeartbeats 8000000 in
set_option maxRecDepth 100000 in
theorem spec_l1Gcd.calls (k : Nat) (a0 : Int) (a1 : Int) (r : Int) (w : World) (h : spec_l1Gcd.f k a0 a1 = some r) :
    Calls Try.prog 87 #[.int .i64 a0, .int .i64 a1] w fun e w' => e = .returned (.int .i64 r) ∧ Below w.heap.size w w' := by
  have HB := Aside0.mk (Below.refl w.heap.size w); unfold spec_l1Gcd.f at h; have H := h; clear h; obtain ⟨t378, A3, H⟩ := bnd H; obtain ⟨t379, A4, H⟩ := bnd H; have H' := Aside0.mk H; clear H; go_enter Try.func87, Try.ntmps87
  go_wp2_with (first | ((with_reducible refine gate_callee (f := 80) rfl ?_); refine goesK (some 7) Try.func80 #[.int .i64 a0] ?_; (with_reducible refine (spec_l1Size.calls a0 t378 _ A3.out).mono ?_); rintro e w5 ⟨rfl, hb⟩; refine ⟨_, rfl, ?_⟩; replace HB := BS hb; (try clear hb)) | ((with_reducible refine gate_callee (f := 80) rfl ?_); refine goesK (some 9) Try.func80 #[.int .i64 a1] ?_; (with_reducible refine (spec_l1Size.calls a1 t379 _ A4.out).mono ?_); rintro e w6 ⟨rfl, hb⟩; refine ⟨_, rfl, ?_⟩; replace HB := BS hb; (try clear hb)))
  go_loopg [0, 1] k (fun kq v0 v1 w' => ∃ (x0_1 : Int) (x1_1 : Int), v0 = .int .i64 x0_1 ∧ v1 = .int .i64 x1_1 ∧ Aside0 (spec_l1Gcd.l0 kq x0_1 x1_1 = some r) ∧ Aside0 (kq ≤ k) ∧ Aside0 (Below w.heap.size w w'))
  case atStart => exact ⟨(t378), (t379), sR, sR, H', ⟨Nat.le_refl _⟩, ⟨BU⟩⟩
  case round =>
    clear H'; obtain ⟨x0_1, x1_1, rfl, rfl, HA, HK1, HB⟩ := hrel; cases gk with
    | zero => exact absurd HA.out (by simp [spec_l1Gcd.l0])
    | succ k1 =>
      have H := HA.out; clear HA; simp only [spec_l1Gcd.l0] at H
      by_cases c7 : x1_1 = 0
      · rw [if_pos c7] at H
        have c7b0 : (x1_1 == 0) = true := beq_iff_eq.mpr c7; have c7b1 : (x1_1 != 0) = false := bne_eq_false_iff_eq.mpr c7; clear c7; obtain rfl := Option.some.inj H
        go_wp2
        go_ret
        exact ⟨eR, BU⟩
      rw [if_neg c7] at H; have c7b0 : (x1_1 == 0) = false := beq_eq_false_iff_ne.mpr c7; have c7b1 : (x1_1 != 0) = true := bne_iff_ne.mpr c7; have H' := Aside0.mk H; clear H
      go_wp2
      go_roundg k1
      case measure => have := HK1.out; omega
      case rel => exact ⟨(x1_1), (Int.tmod x0_1 x1_1), sR, sR, H', ⟨by have := HK1.out; omega⟩, ⟨BU⟩⟩

end Go.Proofs.Ytnbeeogmaamgdaa.PFnOf
