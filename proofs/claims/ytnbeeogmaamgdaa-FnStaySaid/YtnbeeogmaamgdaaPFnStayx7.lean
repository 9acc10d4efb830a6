-- Written by a program of this session (wip/print2.py): the functions that the law reaches, plain, and the walks.
import Derived.Test.YtnbeeogmaamgdaaPFnStayx0
import Derived.Test.YtnbeeogmaamgdaaPFnStayx3
import Derived.Test.YtnbeeogmaamgdaaPFnStayx4
import Derived.Test.YtnbeeogmaamgdaaPFnStayx5
namespace Go.Proofs.Ytnbeeogmaamgdaa.PFnStay
open Go.RowKit Go.Proofs.YtnbeeogmaamgdaaW.PrintWords Go.Proofs.YtnbeeogmaamgdaaW.PrintLast Go.Proofs.YtnbeeogmaamgdaaW.PrintMore
attribute [local go_sem] max2_int min2_int max_two min_two max_three min_three max_four min_four   -- for this text's walks alone
set_option linter.unusedVariables false
set_option linter.unusedSimpArgs false

/-! ### impl_MoveMul: function 18 -/
mutual
def impl_MoveMul.j0 : Nat → List Int → Bool → List (List Int) → Int → List (List Int) → Int → Option ((List (List Int)) × Int × Bool)
  | 0, _, _, _, _, _, _ => none
  | k + 1, x0, x25, x280000, x280001, x281000, x281001 => if x25 = true then (some (([] : List (List Int)), 0, false)) else (impl_MoveMul.l0 k x0 x280000 (x280000.length : Int) 0 x281000 x281001 ([] : List (List Int)) (wrap64 (x280001 * x281001)))
def impl_MoveMul.l0 : Nat → List Int → List (List Int) → Int → Int → List (List Int) → Int → List (List Int) → Int → Option ((List (List Int)) × Int × Bool)
  | 0, _, _, _, _, _, _, _, _ => none
  | k + 1, x0, x34, x35, x36, x281000, x281001, x285000, x285001 => if x36 < x35 then (if 0 ≤ x36 then (if x36 < (x34.length : Int) then (impl_MoveMul.l1 k x0 (rd_L2 x34 x36) (([] : List Int)) x34 x35 x36 (x0.length : Int) 0 x281000 x281001 x285000 x285001) else (none)) else (none)) else ((impl_lowest.f k x0 x285000 x285001).bind fun bt285 => (some (bt285.1, bt285.2.1, bt285.2.2)))
def impl_MoveMul.l1 : Nat → List Int → List Int → List Int → List (List Int) → Int → Int → Int → Int → List (List Int) → Int → List (List Int) → Int → Option ((List (List Int)) × Int × Bool)
  | 0, _, _, _, _, _, _, _, _, _, _, _, _ => none
  | k + 1, x0, x10, x11, x34, x35, x36, x42, x43, x281000, x281001, x285000, x285001 => if x43 < x42 then ((impl_column.f k x281000 x281001 x43).bind fun t297 => (impl_MoveMul.l2 k x0 x10 x11 0 x34 x35 x36 x42 x43 t297 (t297.length : Int) 0 x281000 x281001 x285000 x285001)) else (if x285000.length < 5864062014805 then (impl_MoveMul.l0 k x0 x34 x35 (wrap64 (x36 + 1)) x281000 x281001 (x285000 ++ [x11]) x285001) else (none))
def impl_MoveMul.l2 : Nat → List Int → List Int → List Int → Int → List (List Int) → Int → Int → Int → Int → List Int → Int → Int → List (List Int) → Int → List (List Int) → Int → Option ((List (List Int)) × Int × Bool)
  | 0, _, _, _, _, _, _, _, _, _, _, _, _, _, _, _, _ => none
  | k + 1, x0, x10, x11, x13, x34, x35, x36, x42, x43, x48, x49, x50, x281000, x281001, x285000, x285001 => if x50 < x49 then (if 0 ≤ x50 then (if x50 < (x48.length : Int) then (if x50 < (x10.length : Int) then (impl_MoveMul.l2 k x0 x10 x11 (wrap64 (x13 + (wrap64 ((rd x10 x50) * (rd x48 x50))))) x34 x35 x36 x42 x43 x48 x49 (wrap64 (x50 + 1)) x281000 x281001 x285000 x285001) else (none)) else (none)) else (none)) else (if x11.length < 17592186044416 then (impl_MoveMul.l1 k x0 x10 (x11 ++ [x13]) x34 x35 x36 x42 (wrap64 (x43 + 1)) x281000 x281001 x285000 x285001) else (none))
end
def impl_MoveMul.f (k : Nat) (l0 : List Int) (l1_0 : List (List Int)) (a1_1 : Int) (l2_0 : List (List Int)) (a2_1 : Int) : Option ((List (List Int)) × Int × Bool) := (impl_MoveValid.f k l0 l1_0 a1_1).bind fun t282 => (if t282 = true then ((impl_MoveValid.f k l0 l2_0 a2_1).bind fun t283 => (impl_MoveMul.j0 k l0 (!t283) l1_0 a1_1 l2_0 a2_1)) else (impl_MoveMul.j0 k l0 true l1_0 a1_1 l2_0 a2_1))
theorem impl_MoveMul.mono_l : ∀ k, (∀ y0 y1 y2 y3 y4 y5, LeO (impl_MoveMul.j0 k y0 y1 y2 y3 y4 y5) (impl_MoveMul.j0 (k + 1) y0 y1 y2 y3 y4 y5)) ∧ (∀ y0 y1 y2 y3 y4 y5 y6 y7, LeO (impl_MoveMul.l0 k y0 y1 y2 y3 y4 y5 y6 y7) (impl_MoveMul.l0 (k + 1) y0 y1 y2 y3 y4 y5 y6 y7)) ∧ (∀ y0 y1 y2 y3 y4 y5 y6 y7 y8 y9 y10 y11, LeO (impl_MoveMul.l1 k y0 y1 y2 y3 y4 y5 y6 y7 y8 y9 y10 y11) (impl_MoveMul.l1 (k + 1) y0 y1 y2 y3 y4 y5 y6 y7 y8 y9 y10 y11)) ∧ (∀ y0 y1 y2 y3 y4 y5 y6 y7 y8 y9 y10 y11 y12 y13 y14 y15, LeO (impl_MoveMul.l2 k y0 y1 y2 y3 y4 y5 y6 y7 y8 y9 y10 y11 y12 y13 y14 y15) (impl_MoveMul.l2 (k + 1) y0 y1 y2 y3 y4 y5 y6 y7 y8 y9 y10 y11 y12 y13 y14 y15))
  | 0 => ⟨fun _ _ _ _ _ _ r h => by simp [impl_MoveMul.j0] at h, fun _ _ _ _ _ _ _ _ r h => by simp [impl_MoveMul.l0] at h, fun _ _ _ _ _ _ _ _ _ _ _ _ r h => by simp [impl_MoveMul.l1] at h, fun _ _ _ _ _ _ _ _ _ _ _ _ _ _ _ _ r h => by simp [impl_MoveMul.l2] at h⟩
  | k + 1 => by
    obtain ⟨ih0, ih1, ih2, ih3⟩ := impl_MoveMul.mono_l k
    refine ⟨?_, ?_, ?_, ?_⟩
    · intro y0 y1 y2 y3 y4 y5
      unfold impl_MoveMul.j0
      repeat' first
      | (with_reducible exact ih0 _ _ _ _ _ _)
      | (with_reducible exact ih1 _ _ _ _ _ _ _ _)
      | (with_reducible exact ih2 _ _ _ _ _ _ _ _ _ _ _ _)
      | (with_reducible exact ih3 _ _ _ _ _ _ _ _ _ _ _ _ _ _ _ _)
      | (with_reducible exact impl_MoveValid.mono _ _ _ _)
      | (with_reducible exact impl_column.mono _ _ _ _)
      | (with_reducible exact impl_lowest.mono _ _ _ _)
      | (with_reducible exact LeO.refl _)
      | (with_reducible exact LeO.none _)
      | (with_reducible refine LeO.ite ?_ ?_)
      | (with_reducible refine LeO.bind ?_ (fun _ => ?_))
      | exact ih0 _ _ _ _ _ _
      | exact ih1 _ _ _ _ _ _ _ _
      | exact ih2 _ _ _ _ _ _ _ _ _ _ _ _
      | exact ih3 _ _ _ _ _ _ _ _ _ _ _ _ _ _ _ _
      | exact impl_MoveValid.mono _ _ _ _
      | exact impl_column.mono _ _ _ _
      | exact impl_lowest.mono _ _ _ _
      | exact LeO.none _
      | refine LeO.ite ?_ ?_
      | refine LeO.bind ?_ (fun _ => ?_)
    · intro y0 y1 y2 y3 y4 y5 y6 y7
      unfold impl_MoveMul.l0
      repeat' first
      | (with_reducible exact ih0 _ _ _ _ _ _)
      | (with_reducible exact ih1 _ _ _ _ _ _ _ _)
      | (with_reducible exact ih2 _ _ _ _ _ _ _ _ _ _ _ _)
      | (with_reducible exact ih3 _ _ _ _ _ _ _ _ _ _ _ _ _ _ _ _)
      | (with_reducible exact impl_MoveValid.mono _ _ _ _)
      | (with_reducible exact impl_column.mono _ _ _ _)
      | (with_reducible exact impl_lowest.mono _ _ _ _)
      | (with_reducible exact LeO.refl _)
      | (with_reducible exact LeO.none _)
      | (with_reducible refine LeO.ite ?_ ?_)
      | (with_reducible refine LeO.bind ?_ (fun _ => ?_))
      | exact ih0 _ _ _ _ _ _
      | exact ih1 _ _ _ _ _ _ _ _
      | exact ih2 _ _ _ _ _ _ _ _ _ _ _ _
      | exact ih3 _ _ _ _ _ _ _ _ _ _ _ _ _ _ _ _
      | exact impl_MoveValid.mono _ _ _ _
      | exact impl_column.mono _ _ _ _
      | exact impl_lowest.mono _ _ _ _
      | exact LeO.none _
      | refine LeO.ite ?_ ?_
      | refine LeO.bind ?_ (fun _ => ?_)
    · intro y0 y1 y2 y3 y4 y5 y6 y7 y8 y9 y10 y11
      unfold impl_MoveMul.l1
      repeat' first
      | (with_reducible exact ih0 _ _ _ _ _ _)
      | (with_reducible exact ih1 _ _ _ _ _ _ _ _)
      | (with_reducible exact ih2 _ _ _ _ _ _ _ _ _ _ _ _)
      | (with_reducible exact ih3 _ _ _ _ _ _ _ _ _ _ _ _ _ _ _ _)
      | (with_reducible exact impl_MoveValid.mono _ _ _ _)
      | (with_reducible exact impl_column.mono _ _ _ _)
      | (with_reducible exact impl_lowest.mono _ _ _ _)
      | (with_reducible exact LeO.refl _)
      | (with_reducible exact LeO.none _)
      | (with_reducible refine LeO.ite ?_ ?_)
      | (with_reducible refine LeO.bind ?_ (fun _ => ?_))
      | exact ih0 _ _ _ _ _ _
      | exact ih1 _ _ _ _ _ _ _ _
      | exact ih2 _ _ _ _ _ _ _ _ _ _ _ _
      | exact ih3 _ _ _ _ _ _ _ _ _ _ _ _ _ _ _ _
      | exact impl_MoveValid.mono _ _ _ _
      | exact impl_column.mono _ _ _ _
      | exact impl_lowest.mono _ _ _ _
      | exact LeO.none _
      | refine LeO.ite ?_ ?_
      | refine LeO.bind ?_ (fun _ => ?_)
    · intro y0 y1 y2 y3 y4 y5 y6 y7 y8 y9 y10 y11 y12 y13 y14 y15
      unfold impl_MoveMul.l2
      repeat' first
      | (with_reducible exact ih0 _ _ _ _ _ _)
      | (with_reducible exact ih1 _ _ _ _ _ _ _ _)
      | (with_reducible exact ih2 _ _ _ _ _ _ _ _ _ _ _ _)
      | (with_reducible exact ih3 _ _ _ _ _ _ _ _ _ _ _ _ _ _ _ _)
      | (with_reducible exact impl_MoveValid.mono _ _ _ _)
      | (with_reducible exact impl_column.mono _ _ _ _)
      | (with_reducible exact impl_lowest.mono _ _ _ _)
      | (with_reducible exact LeO.refl _)
      | (with_reducible exact LeO.none _)
      | (with_reducible refine LeO.ite ?_ ?_)
      | (with_reducible refine LeO.bind ?_ (fun _ => ?_))
      | exact ih0 _ _ _ _ _ _
      | exact ih1 _ _ _ _ _ _ _ _
      | exact ih2 _ _ _ _ _ _ _ _ _ _ _ _
      | exact ih3 _ _ _ _ _ _ _ _ _ _ _ _ _ _ _ _
      | exact impl_MoveValid.mono _ _ _ _
      | exact impl_column.mono _ _ _ _
      | exact impl_lowest.mono _ _ _ _
      | exact LeO.none _
      | refine LeO.ite ?_ ?_
      | refine LeO.bind ?_ (fun _ => ?_)
theorem impl_MoveMul.mono : ∀ a0 a1 a2 a3 a4 k, LeO (impl_MoveMul.f k a0 a1 a2 a3 a4) (impl_MoveMul.f (k + 1) a0 a1 a2 a3 a4) := by
  intro a0 a1 a2 a3 a4 k
  obtain ⟨ih0, ih1, ih2, ih3⟩ := impl_MoveMul.mono_l k
  unfold impl_MoveMul.f
  repeat' first
      | (with_reducible exact ih0 _ _ _ _ _ _)
      | (with_reducible exact ih1 _ _ _ _ _ _ _ _)
      | (with_reducible exact ih2 _ _ _ _ _ _ _ _ _ _ _ _)
      | (with_reducible exact ih3 _ _ _ _ _ _ _ _ _ _ _ _ _ _ _ _)
      | (with_reducible exact impl_MoveValid.mono _ _ _ _)
      | (with_reducible exact impl_column.mono _ _ _ _)
      | (with_reducible exact impl_lowest.mono _ _ _ _)
      | (with_reducible exact LeO.refl _)
      | (with_reducible exact LeO.none _)
      | (with_reducible refine LeO.ite ?_ ?_)
      | (with_reducible refine LeO.bind ?_ (fun _ => ?_))
      | exact ih0 _ _ _ _ _ _
      | exact ih1 _ _ _ _ _ _ _ _
      | exact ih2 _ _ _ _ _ _ _ _ _ _ _ _
      | exact ih3 _ _ _ _ _ _ _ _ _ _ _ _ _ _ _ _
      | exact impl_MoveValid.mono _ _ _ _
      | exact impl_column.mono _ _ _ _
      | exact impl_lowest.mono _ _ _ _
      | exact LeO.none _
      | refine LeO.ite ?_ ?_
      | refine LeO.bind ?_ (fun _ => ?_)
set_option maxHeartbeats 8000000 in
set_option maxRecDepth 100000 in
theorem impl_MoveMul.calls (k : Nat) (A0 : Option Addr) (c0 : Nat) (l0 : List Int) (A1_0 : Option Addr) (c1_0 : Nat) (l1_0 : List (List Int)) (a1_1 : Int) (A2_0 : Option Addr) (c2_0 : Nat) (l2_0 : List (List Int)) (a2_1 : Int) (r1 : List (List Int)) (r2 : Int) (r3 : Bool) (w : World) (hr0 : Kd.C (Kd.int .i64) w A0 l0.length l0) (hc0 : l0.length ≤ c0) (hr1_0 : Kd.C (Kd.slice 3 (Kd.int .i64)) w A1_0 l1_0.length l1_0) (hc1_0 : l1_0.length ≤ c1_0) (hr2_0 : Kd.C (Kd.slice 3 (Kd.int .i64)) w A2_0 l2_0.length l2_0) (hc2_0 : l2_0.length ≤ c2_0) (h : impl_MoveMul.f k l0 l1_0 a1_1 l2_0 a2_1 = some (r1, r2, r3)) :
    Calls Try.prog 18 #[.slice A0 l0.length c0, .agg #[.slice A1_0 l1_0.length c1_0, .int .i64 a1_1], .agg #[.slice A2_0 l2_0.length c2_0, .int .i64 a2_1]] w fun e w' => ∃ v0_ : Value, e = .returned (.tuple #[.agg #[v0_, .int .i64 r2], .bool r3]) ∧ Kd.S (Kd.slice 3 (Kd.int .i64)) 23 w' w.heap.size (fun _ => True) v0_ r1 ∧ Below w.heap.size w w' := by
  have hu27 := Try.underlying27
  have HR0 := Aside0.mk hr0
  have HC0 := Aside0.mk hc0
  clear hr0 hc0
  have HR1_0 := Aside0.mk hr1_0
  have HC1_0 := Aside0.mk hc1_0
  clear hr1_0 hc1_0
  have HR2_0 := Aside0.mk hr2_0
  have HC2_0 := Aside0.mk hc2_0
  clear hr2_0 hc2_0
  have HB := Aside0.mk (Below.refl w.heap.size w)
  have H : ((impl_MoveValid.f k l0 l1_0 a1_1).bind fun t282 => (if t282 = true then ((impl_MoveValid.f k l0 l2_0 a2_1).bind fun t283 => (impl_MoveMul.j0 k l0 (!t283) l1_0 a1_1 l2_0 a2_1)) else (impl_MoveMul.j0 k l0 true l1_0 a1_1 l2_0 a2_1))) = some (r1, r2, r3) := h
  clear h
  have HC4 := Aside0.mk H
  clear H
  go_enter Try.func18, Try.ntmps18
  go_upto_region 1 with (first | ((with_reducible refine gate_dst (N := 4) rfl ?_); refine box_event ?hg (N := 4) ?hd (cs := #[.slice A1_0 l1_0.length c1_0, .int .i64 a1_1]) (t := 27) ?hr ?_; (case hd => rfl); (case hg => rfl); (case hr => first | (go_simp; done) | (go_simp; rfl)); intro gb279 hg w5 hbox hb; have n0_ := Aside0.mk (below_step (by repeat (first | (with_reducible first | exact HB.out | apply below_alloc | apply pw_below_drewN | apply below_drew1) | exact HB.out | exact Below.refl _ _)) hb); have n1_ := Aside0.mk (hbox); have n2_ := Aside0.mk ((by rw [hg]; exact (below_size (by repeat (first | (with_reducible first | exact HB.out | apply below_alloc | apply pw_below_drewN | apply below_drew1) | exact HB.out | exact Below.refl _ _))) : w.heap.size ≤ gb279)); have n3_ := Aside0.mk ((by rw [hg]; exact (below_size (by repeat (first | (with_reducible first | exact HB.out | apply below_alloc | apply pw_below_drewN | apply below_drew1) | exact HB.out | exact Below.refl _ _))) : w.heap.size ≤ gb279)); try clear HB; have HB := n0_; have BK279 := n1_; have GW279 := n2_; have GE279 := n3_; clear n0_ n1_ n2_ n3_; clear hb hbox hg) | ((with_reducible refine gate_dst (N := 5) rfl ?_); refine box_event ?hg (N := 5) ?hd (cs := #[.slice A2_0 l2_0.length c2_0, .int .i64 a2_1]) (t := 27) ?hr ?_; (case hd => rfl); (case hg => rfl); (case hr => first | (go_simp; done) | (go_simp; rfl)); intro gb280 hg w6 hbox hb; have n0_ := Aside0.mk (blk_below (g := gb279) (o := .cells #[.slice A1_0 l1_0.length c1_0, .int .i64 a1_1] 27 (0, 0)) (by (with_reducible repeat (first | refine blk_drewN ?_ _ | refine blk_drew ?_ | refine blk_alloc ?_ _)); exact BK279.out) hb); have n1_ := Aside0.mk (below_step (by repeat (first | (with_reducible first | exact HB.out | apply below_alloc | apply pw_below_drewN | apply below_drew1 | refine below_set ?_ GE279.out) | exact HB.out)) hb); have n2_ := Aside0.mk (hbox); have n3_ := Aside0.mk ((by rw [hg]; exact (below_size (by repeat (first | (with_reducible first | exact HB.out | apply below_alloc | apply pw_below_drewN | apply below_drew1 | refine below_set ?_ GE279.out) | exact HB.out))) : w.heap.size ≤ gb280)); have n4_ := Aside0.mk ((by rw [hg]; exact (below_size (by repeat (first | (with_reducible first | exact HB.out | apply below_alloc | apply pw_below_drewN | apply below_drew1 | refine below_set ?_ GE279.out) | exact HB.out))) : w.heap.size ≤ gb280)); have n5_ := Aside0.mk ((by rw [hg]; exact Nat.ne_of_lt (blk_lt (g := gb279) (o := .cells #[.slice A1_0 l1_0.length c1_0, .int .i64 a1_1] 27 (0, 0)) (by (with_reducible repeat (first | refine blk_drewN ?_ _ | refine blk_drew ?_ | refine blk_alloc ?_ _)); exact BK279.out)) : gb279 ≠ gb280)); have n6_ := Aside0.mk ((by rw [hg]; exact Nat.ne_of_gt (blk_lt (g := gb279) (o := .cells #[.slice A1_0 l1_0.length c1_0, .int .i64 a1_1] 27 (0, 0)) (by (with_reducible repeat (first | refine blk_drewN ?_ _ | refine blk_drew ?_ | refine blk_alloc ?_ _)); exact BK279.out)) : gb280 ≠ gb279)); clear BK279; try clear HB; have BK279 := n0_; have HB := n1_; have BK280 := n2_; have GW280 := n3_; have GE280 := n4_; have NB279_280 := n5_; have NB280_279 := n6_; clear n0_ n1_ n2_ n3_ n4_ n5_ n6_; clear hb hbox hg) | ((with_reducible refine gate_dst (N := 6) rfl ?_); refine box_event ?hg (N := 6) ?hd (cs := #[.slice none 0 0, .int .i64 0]) (t := 27) ?hr ?_; (case hd => rfl); (case hg => rfl); (case hr => first | (go_simp; done) | (go_simp; rfl)); intro gb281 hg w7 hbox hb; have n0_ := Aside0.mk (blk_below (g := gb279) (o := .cells #[.slice A1_0 l1_0.length c1_0, .int .i64 a1_1] 27 (0, 0)) (by (with_reducible repeat (first | refine blk_drewN ?_ _ | refine blk_drew ?_ | refine blk_alloc ?_ _)); exact BK279.out) hb); have n1_ := Aside0.mk (blk_below (g := gb280) (o := .cells #[.slice A2_0 l2_0.length c2_0, .int .i64 a2_1] 27 (0, 0)) (by (with_reducible repeat (first | refine blk_drewN ?_ _ | refine blk_drew ?_ | refine blk_alloc ?_ _)); exact BK280.out) hb); have n2_ := Aside0.mk (below_step (by repeat (first | (with_reducible first | exact HB.out | apply below_alloc | apply pw_below_drewN | apply below_drew1 | refine below_set ?_ GE279.out | refine below_set ?_ GE280.out) | exact HB.out)) hb); have n3_ := Aside0.mk (hbox); have n4_ := Aside0.mk ((by rw [hg]; exact (below_size (by repeat (first | (with_reducible first | exact HB.out | apply below_alloc | apply pw_below_drewN | apply below_drew1 | refine below_set ?_ GE279.out | refine below_set ?_ GE280.out) | exact HB.out))) : w.heap.size ≤ gb281)); have n5_ := Aside0.mk ((by rw [hg]; exact (below_size (by repeat (first | (with_reducible first | exact HB.out | apply below_alloc | apply pw_below_drewN | apply below_drew1 | refine below_set ?_ GE279.out | refine below_set ?_ GE280.out) | exact HB.out))) : w.heap.size ≤ gb281)); have n6_ := Aside0.mk ((by rw [hg]; exact Nat.ne_of_lt (blk_lt (g := gb279) (o := .cells #[.slice A1_0 l1_0.length c1_0, .int .i64 a1_1] 27 (0, 0)) (by (with_reducible repeat (first | refine blk_drewN ?_ _ | refine blk_drew ?_ | refine blk_alloc ?_ _)); exact BK279.out)) : gb279 ≠ gb281)); have n7_ := Aside0.mk ((by rw [hg]; exact Nat.ne_of_gt (blk_lt (g := gb279) (o := .cells #[.slice A1_0 l1_0.length c1_0, .int .i64 a1_1] 27 (0, 0)) (by (with_reducible repeat (first | refine blk_drewN ?_ _ | refine blk_drew ?_ | refine blk_alloc ?_ _)); exact BK279.out)) : gb281 ≠ gb279)); have n8_ := Aside0.mk ((by rw [hg]; exact Nat.ne_of_lt (blk_lt (g := gb280) (o := .cells #[.slice A2_0 l2_0.length c2_0, .int .i64 a2_1] 27 (0, 0)) (by (with_reducible repeat (first | refine blk_drewN ?_ _ | refine blk_drew ?_ | refine blk_alloc ?_ _)); exact BK280.out)) : gb280 ≠ gb281)); have n9_ := Aside0.mk ((by rw [hg]; exact Nat.ne_of_gt (blk_lt (g := gb280) (o := .cells #[.slice A2_0 l2_0.length c2_0, .int .i64 a2_1] 27 (0, 0)) (by (with_reducible repeat (first | refine blk_drewN ?_ _ | refine blk_drew ?_ | refine blk_alloc ?_ _)); exact BK280.out)) : gb281 ≠ gb280)); clear BK279; clear BK280; try clear HB; have BK279 := n0_; have BK280 := n1_; have HB := n2_; have BK281 := n3_; have GW281 := n4_; have GE281 := n5_; have NB279_281 := n6_; have NB281_279 := n7_; have NB280_281 := n8_; have NB281_280 := n9_; clear n0_ n1_ n2_ n3_ n4_ n5_ n6_ n7_ n8_ n9_; clear hb hbox hg))
  (try simp only [Act.put, List.setIfInBounds_toArray, List.set_cons_zero, List.set_cons_succ])
  go_cut [25] (fun v25 wc => ∃ (kq : Nat) (x25_3 : Bool), v25 = .bool x25_3 ∧ Aside0 (impl_MoveMul.j0 kq l0 x25_3 l1_0 a1_1 l2_0 a2_1 = some (r1, r2, r3)) ∧ Aside0 (kq ≤ k) ∧ Aside0 (wc.heap[gb279]? = some (.cells #[(.slice A1_0 l1_0.length c1_0), .int .i64 a1_1] 27 (0, 0))) ∧ Aside0 (wc.heap[gb280]? = some (.cells #[(.slice A2_0 l2_0.length c2_0), .int .i64 a2_1] 27 (0, 0))) ∧ Aside0 (wc.heap[gb281]? = some (.cells #[(.slice none 0 0), .int .i64 0] 27 (0, 0))) ∧ Aside0 (Below w.heap.size w wc))
  case first =>
    have H := HC4.out
    clear HC4
    replace H := Option.bind_eq_some_iff.mp H
    obtain ⟨t282, A80, H⟩ := H
    replace H : (if t282 = true then ((impl_MoveValid.f k l0 l2_0 a2_1).bind fun t283 => (impl_MoveMul.j0 k l0 (!t283) l1_0 a1_1 l2_0 a2_1)) else (impl_MoveMul.j0 k l0 true l1_0 a1_1 l2_0 a2_1)) = some (r1, r2, r3) := H
    have A8 := Aside0.mk A80
    clear A80
    by_cases c9 : t282 = true
    · subst c9
      have H1 : ((impl_MoveValid.f k l0 l2_0 a2_1).bind fun t283 => (impl_MoveMul.j0 k l0 (!t283) l1_0 a1_1 l2_0 a2_1)) = some (r1, r2, r3) := by rw [if_pos rfl] at H; exact H
      clear H
      have H := H1
      clear H1
      replace H := Option.bind_eq_some_iff.mp H
      obtain ⟨t283, A100, H⟩ := H
      replace H : (impl_MoveMul.j0 k l0 (!t283) l1_0 a1_1 l2_0 a2_1) = some (r1, r2, r3) := H
      have A10 := Aside0.mk A100
      clear A100
      have H' := Aside0.mk H
      clear H
      have hnb11 := NB279_280.out
      have hnc11 := NB280_279.out
      have hnb12 := NB279_281.out
      have hnc12 := NB281_279.out
      have hcz13_0 : w7.cell? ⟨gb279, 0, none⟩ = some (.slice A1_0 l1_0.length c1_0) := (blk_cell BK279.out 0).trans rfl
      have hcz13_1 : w7.cell? ⟨gb279, 1, none⟩ = some (.int .i64 a1_1) := (blk_cell BK279.out 1).trans rfl
      have hfz13_0 := blk_frozen BK279.out 0
      have hfz13_1 := blk_frozen BK279.out 1
      go_wp2_with (first | ((with_reducible refine gate_callee (f := 21) rfl ?_); refine goesL_ (some 18) rfl rfl Try.func21 (by kernel_rfl) rfl #[.slice A0 l0.length c0, .agg #[.slice A1_0 l1_0.length c1_0, .int .i64 a1_1]] rfl (by (try simp only [List.map_toArray, List.map_cons, List.map_nil]); first | done | rfl | (simp only [List.length_drop, List.length_take]; rfl)) ?_; (with_reducible refine (impl_MoveValid.calls k _ _ l0 _ _ l1_0 a1_1 true _ ?side1 ?side2 ?side3 ?side4 A8.out).mono ?_); (case side1 => repeat (first | exact (Kd.C_below HR0.out HB.out) | (with_reducible refine Kd.C_alloc ?_ _) | (with_reducible refine Kd.C_drewN ?_ _) | (with_reducible refine Kd.C_drew ?_))); (case side2 => exact HC0.out); (case side3 => repeat (first | exact (Kd.C_below HR1_0.out HB.out) | (with_reducible refine Kd.C_alloc ?_ _) | (with_reducible refine Kd.C_drewN ?_ _) | (with_reducible refine Kd.C_drew ?_))); (case side4 => exact HC1_0.out); rintro e w14 ⟨rfl, hb⟩; refine ⟨_, rfl, ?_⟩; have n0_ := Aside0.mk (blk_below (g := gb279) (o := .cells #[.slice A1_0 l1_0.length c1_0, .int .i64 a1_1] 27 (0, 0)) (by (with_reducible repeat (first | refine blk_drewN ?_ _ | refine blk_drew ?_ | refine blk_alloc ?_ _)); exact BK279.out) hb); have n1_ := Aside0.mk (blk_below (g := gb280) (o := .cells #[.slice A2_0 l2_0.length c2_0, .int .i64 a2_1] 27 (0, 0)) (by (with_reducible repeat (first | refine blk_drewN ?_ _ | refine blk_drew ?_ | refine blk_alloc ?_ _)); exact BK280.out) hb); have n2_ := Aside0.mk (blk_below (g := gb281) (o := .cells #[.slice none 0 0, .int .i64 0] 27 (0, 0)) (by (with_reducible repeat (first | refine blk_drewN ?_ _ | refine blk_drew ?_ | refine blk_alloc ?_ _)); exact BK281.out) hb); have n3_ := Aside0.mk (below_step (by repeat (first | (with_reducible first | exact HB.out | apply below_alloc | apply pw_below_drewN | apply below_drew1 | refine below_set ?_ GE279.out | refine below_set ?_ GE280.out | refine below_set ?_ GE281.out) | exact HB.out)) hb); clear BK279; clear BK280; clear BK281; try clear HB; have BK279 := n0_; have BK280 := n1_; have BK281 := n2_; have HB := n3_; clear n0_ n1_ n2_ n3_; (try clear hb); (try clear hb2); (try clear hk); (try clear hi); have hnb15 := NB280_281.out; have hnc15 := NB281_280.out; have hcz16_0 : w14.cell? ⟨gb280, 0, none⟩ = some (.slice A2_0 l2_0.length c2_0) := (blk_cell BK280.out 0).trans rfl; have hcz16_1 : w14.cell? ⟨gb280, 1, none⟩ = some (.int .i64 a2_1) := (blk_cell BK280.out 1).trans rfl; have hfz16_0 := blk_frozen BK280.out 0; have hfz16_1 := blk_frozen BK280.out 1) | (go_at_call 21; (with_reducible refine (impl_MoveValid.calls k _ _ l0 _ _ l2_0 a2_1 t283 _ ?side1 ?side2 ?side3 ?side4 A10.out).mono ?_); (case side1 => repeat (first | exact (Kd.C_below HR0.out HB.out) | (with_reducible refine Kd.C_alloc ?_ _) | (with_reducible refine Kd.C_drewN ?_ _) | (with_reducible refine Kd.C_drew ?_))); (case side2 => exact HC0.out); (case side3 => repeat (first | exact (Kd.C_below HR2_0.out HB.out) | (with_reducible refine Kd.C_alloc ?_ _) | (with_reducible refine Kd.C_drewN ?_ _) | (with_reducible refine Kd.C_drew ?_))); (case side4 => exact HC2_0.out); rintro e w17 ⟨rfl, hb⟩; have n0_ := Aside0.mk (blk_below (g := gb279) (o := .cells #[.slice A1_0 l1_0.length c1_0, .int .i64 a1_1] 27 (0, 0)) (by (with_reducible repeat (first | refine blk_drewN ?_ _ | refine blk_drew ?_ | refine blk_alloc ?_ _)); exact BK279.out) hb); have n1_ := Aside0.mk (blk_below (g := gb280) (o := .cells #[.slice A2_0 l2_0.length c2_0, .int .i64 a2_1] 27 (0, 0)) (by (with_reducible repeat (first | refine blk_drewN ?_ _ | refine blk_drew ?_ | refine blk_alloc ?_ _)); exact BK280.out) hb); have n2_ := Aside0.mk (blk_below (g := gb281) (o := .cells #[.slice none 0 0, .int .i64 0] 27 (0, 0)) (by (with_reducible repeat (first | refine blk_drewN ?_ _ | refine blk_drew ?_ | refine blk_alloc ?_ _)); exact BK281.out) hb); have n3_ := Aside0.mk (below_step (by repeat (first | (with_reducible first | exact HB.out | apply below_alloc | apply pw_below_drewN | apply below_drew1 | refine below_set ?_ GE279.out | refine below_set ?_ GE280.out | refine below_set ?_ GE281.out) | exact HB.out)) hb); clear BK279; clear BK280; clear BK281; try clear HB; have BK279 := n0_; have BK280 := n1_; have BK281 := n2_; have HB := n3_; clear n0_ n1_ n2_ n3_; (try clear hb); (try clear hb2); (try clear hk); (try clear hi)))
      go_meet
      case rel => exact ⟨_, (!t283), (by first | rfl | (simp; done) | (simp [*]; done)), H', ⟨by first | omega | exact Nat.le_refl _⟩, ⟨by (with_reducible repeat (first | refine blk_drewN ?_ _ | refine blk_drew ?_ | refine blk_alloc ?_ _)); exact BK279.out⟩, ⟨by (with_reducible repeat (first | refine blk_drewN ?_ _ | refine blk_drew ?_ | refine blk_alloc ?_ _)); exact BK280.out⟩, ⟨by (with_reducible repeat (first | refine blk_drewN ?_ _ | refine blk_drew ?_ | refine blk_alloc ?_ _)); exact BK281.out⟩, ⟨by repeat (first | (with_reducible first | exact HB.out | apply below_alloc | apply pw_below_drewN | apply below_drew1 | refine below_set ?_ GE279.out | refine below_set ?_ GE280.out | refine below_set ?_ GE281.out) | exact HB.out)⟩⟩
    replace c9 := Bool.eq_false_iff.mpr c9
    subst c9
    have H1 : (impl_MoveMul.j0 k l0 true l1_0 a1_1 l2_0 a2_1) = some (r1, r2, r3) := by rw [if_neg (show ¬ (false = true) by decide)] at H; exact H
    clear H
    have H := H1
    clear H1
    have H' := Aside0.mk H
    clear H
    have hnb18 := NB279_280.out
    have hnc18 := NB280_279.out
    have hnb19 := NB279_281.out
    have hnc19 := NB281_279.out
    have hcz20_0 : w7.cell? ⟨gb279, 0, none⟩ = some (.slice A1_0 l1_0.length c1_0) := (blk_cell BK279.out 0).trans rfl
    have hcz20_1 : w7.cell? ⟨gb279, 1, none⟩ = some (.int .i64 a1_1) := (blk_cell BK279.out 1).trans rfl
    have hfz20_0 := blk_frozen BK279.out 0
    have hfz20_1 := blk_frozen BK279.out 1
    go_wp2_with (first | ((with_reducible refine gate_callee (f := 21) rfl ?_); refine goesL_ (some 18) rfl rfl Try.func21 (by kernel_rfl) rfl #[.slice A0 l0.length c0, .agg #[.slice A1_0 l1_0.length c1_0, .int .i64 a1_1]] rfl (by (try simp only [List.map_toArray, List.map_cons, List.map_nil]); first | done | rfl | (simp only [List.length_drop, List.length_take]; rfl)) ?_; (with_reducible refine (impl_MoveValid.calls k _ _ l0 _ _ l1_0 a1_1 false _ ?side1 ?side2 ?side3 ?side4 A8.out).mono ?_); (case side1 => repeat (first | exact (Kd.C_below HR0.out HB.out) | (with_reducible refine Kd.C_alloc ?_ _) | (with_reducible refine Kd.C_drewN ?_ _) | (with_reducible refine Kd.C_drew ?_))); (case side2 => exact HC0.out); (case side3 => repeat (first | exact (Kd.C_below HR1_0.out HB.out) | (with_reducible refine Kd.C_alloc ?_ _) | (with_reducible refine Kd.C_drewN ?_ _) | (with_reducible refine Kd.C_drew ?_))); (case side4 => exact HC1_0.out); rintro e w21 ⟨rfl, hb⟩; refine ⟨_, rfl, ?_⟩; have n0_ := Aside0.mk (blk_below (g := gb279) (o := .cells #[.slice A1_0 l1_0.length c1_0, .int .i64 a1_1] 27 (0, 0)) (by (with_reducible repeat (first | refine blk_drewN ?_ _ | refine blk_drew ?_ | refine blk_alloc ?_ _)); exact BK279.out) hb); have n1_ := Aside0.mk (blk_below (g := gb280) (o := .cells #[.slice A2_0 l2_0.length c2_0, .int .i64 a2_1] 27 (0, 0)) (by (with_reducible repeat (first | refine blk_drewN ?_ _ | refine blk_drew ?_ | refine blk_alloc ?_ _)); exact BK280.out) hb); have n2_ := Aside0.mk (blk_below (g := gb281) (o := .cells #[.slice none 0 0, .int .i64 0] 27 (0, 0)) (by (with_reducible repeat (first | refine blk_drewN ?_ _ | refine blk_drew ?_ | refine blk_alloc ?_ _)); exact BK281.out) hb); have n3_ := Aside0.mk (below_step (by repeat (first | (with_reducible first | exact HB.out | apply below_alloc | apply pw_below_drewN | apply below_drew1 | refine below_set ?_ GE279.out | refine below_set ?_ GE280.out | refine below_set ?_ GE281.out) | exact HB.out)) hb); clear BK279; clear BK280; clear BK281; try clear HB; have BK279 := n0_; have BK280 := n1_; have BK281 := n2_; have HB := n3_; clear n0_ n1_ n2_ n3_; (try clear hb); (try clear hb2); (try clear hk); (try clear hi)))
    go_meet
    case rel => exact ⟨_, (true), (by first | rfl | (simp; done) | (simp [*]; done)), H', ⟨by first | omega | exact Nat.le_refl _⟩, ⟨by (with_reducible repeat (first | refine blk_drewN ?_ _ | refine blk_drew ?_ | refine blk_alloc ?_ _)); exact BK279.out⟩, ⟨by (with_reducible repeat (first | refine blk_drewN ?_ _ | refine blk_drew ?_ | refine blk_alloc ?_ _)); exact BK280.out⟩, ⟨by (with_reducible repeat (first | refine blk_drewN ?_ _ | refine blk_drew ?_ | refine blk_alloc ?_ _)); exact BK281.out⟩, ⟨by repeat (first | (with_reducible first | exact HB.out | apply below_alloc | apply pw_below_drewN | apply below_drew1 | refine below_set ?_ GE279.out | refine below_set ?_ GE280.out | refine below_set ?_ GE281.out) | exact HB.out)⟩⟩
  case rest =>
    clear HC4
    try clear c1
    try clear c2
    try clear p2
    try clear c9
    try clear c11
    try clear c12
    try clear c15
    try clear c18
    try clear c19
    try clear c21
    try clear hcz13_0
    try clear hcz13_1
    try clear hcz16_0
    try clear hcz16_1
    try clear hcz20_0
    try clear hcz20_1
    try clear hfz13_0
    try clear hfz13_1
    try clear hfz16_0
    try clear hfz16_1
    try clear hfz20_0
    try clear hfz20_1
    obtain ⟨kq, x25_3, rfl, HA, HJ3, BK279, BK280, BK281, HB⟩ := hcut
    cases kq with
    | zero => exact absurd HA.out (by simp [impl_MoveMul.j0])
    | succ kj3 =>
      have H := HA.out
      clear HA
      simp only [impl_MoveMul.j0] at H
      by_cases c22 : x25_3 = true
      · subst c22
        have H1 : (some (([] : List (List Int)), 0, false)) = some (r1, r2, r3) := by rw [if_pos rfl] at H; exact H
        clear H
        have H := H1
        clear H1
        simp only [Option.some.injEq, Prod.mk.injEq] at H
        obtain ⟨rfl, rfl, rfl⟩ := H
        have hnb23 := NB281_279.out
        have hnc23 := NB279_281.out
        have hnb24 := NB281_280.out
        have hnc24 := NB280_281.out
        have hcz25_0 : wc.cell? ⟨gb281, 0, none⟩ = some (.slice none 0 0) := (blk_cell BK281.out 0).trans rfl
        have hcz25_1 : wc.cell? ⟨gb281, 1, none⟩ = some (.int .i64 0) := (blk_cell BK281.out 1).trans rfl
        have hfz25_0 := blk_frozen BK281.out 0
        have hfz25_1 := blk_frozen BK281.out 1
        go_wp2
        refine bodyPost_ret (results_ct rfl _ _ gb281 27 #[.slice none 0 0, .int .i64 0] (0, 0) _ rfl (by (with_reducible repeat (first | refine blk_drewN ?_ _ | refine blk_drew ?_ | refine blk_alloc ?_ _)); refine blk_put (cs := #[.slice none 0 0, .int .i64 0]) ?_ 1 _ rfl; (with_reducible repeat (first | refine blk_drewN ?_ _ | refine blk_drew ?_ | refine blk_alloc ?_ _)); refine blk_put (cs := #[.slice none 0 0, .int .i64 0]) ?_ 0 _ rfl; (with_reducible repeat (first | refine blk_drewN ?_ _ | refine blk_drew ?_ | refine blk_alloc ?_ _)); exact BK281.out) Try.underlying27 rfl (by kernel_rfl)) rfl ?_
        exact ⟨_, by first | rfl | (simp [errW_none, errW_some] <;> rfl) | (simp [*, errW_none, errW_some] <;> rfl), by first | exact Kd.S_nil _ _ _ _ _ | exact Kd.N_nil _ _ _ _ _ | exact Kd.V_nil _ _ _ _ _ | exact Kd.Q_nil _ _ _ _ _ | exact Kd.R_nil _ _ _ _ _, by repeat (first | (with_reducible first | exact HB.out | apply below_alloc | apply pw_below_drewN | apply below_drew1 | refine below_set ?_ GE279.out | refine below_set ?_ GE280.out | refine below_set ?_ GE281.out) | exact HB.out)⟩
      replace c22 := Bool.eq_false_iff.mpr c22
      subst c22
      have H1 : (impl_MoveMul.l0 kj3 l0 l1_0 (l1_0.length : Int) 0 l2_0 a2_1 ([] : List (List Int)) (wrap64 (a1_1 * a2_1))) = some (r1, r2, r3) := by rw [if_neg (show ¬ (false = true) by decide)] at H; exact H
      clear H
      have H := H1
      clear H1
      have H' := Aside0.mk H
      clear H
      have hnb26 := NB279_280.out
      have hnc26 := NB280_279.out
      have hnb27 := NB279_281.out
      have hnc27 := NB281_279.out
      have hcz28_0 : wc.cell? ⟨gb279, 0, none⟩ = some (.slice A1_0 l1_0.length c1_0) := (blk_cell BK279.out 0).trans rfl
      have hcz28_1 : wc.cell? ⟨gb279, 1, none⟩ = some (.int .i64 a1_1) := (blk_cell BK279.out 1).trans rfl
      have hfz28_0 := blk_frozen BK279.out 0
      have hfz28_1 := blk_frozen BK279.out 1
      have hnb29 := NB280_281.out
      have hnc29 := NB281_280.out
      have hcz30_0 : wc.cell? ⟨gb280, 0, none⟩ = some (.slice A2_0 l2_0.length c2_0) := (blk_cell BK280.out 0).trans rfl
      have hcz30_1 : wc.cell? ⟨gb280, 1, none⟩ = some (.int .i64 a2_1) := (blk_cell BK280.out 1).trans rfl
      have hfz30_0 := blk_frozen BK280.out 0
      have hfz30_1 := blk_frozen BK280.out 1
      go_wp2_with (first | ((with_reducible refine gate_dst (N := 8) rfl ?_); refine box_event ?hg (N := 8) ?hd (cs := #[.slice none 0 0, .int .i64 0]) (t := 27) ?hr ?_; (case hd => rfl); (case hg => rfl); (case hr => first | (go_simp; done) | (go_simp; rfl)); intro gb284 hg w31 hbox hb; have n0_ := Aside0.mk (blk_below (g := gb279) (o := .cells #[.slice A1_0 l1_0.length c1_0, .int .i64 a1_1] 27 (0, 0)) (by (with_reducible repeat (first | refine blk_drewN ?_ _ | refine blk_drew ?_ | refine blk_alloc ?_ _)); exact BK279.out) hb); have n1_ := Aside0.mk (blk_below (g := gb280) (o := .cells #[.slice A2_0 l2_0.length c2_0, .int .i64 a2_1] 27 (0, 0)) (by (with_reducible repeat (first | refine blk_drewN ?_ _ | refine blk_drew ?_ | refine blk_alloc ?_ _)); exact BK280.out) hb); have n2_ := Aside0.mk (blk_below (g := gb281) (o := .cells #[.slice none 0 0, .int .i64 0] 27 (0, 0)) (by (with_reducible repeat (first | refine blk_drewN ?_ _ | refine blk_drew ?_ | refine blk_alloc ?_ _)); exact BK281.out) hb); have n3_ := Aside0.mk (below_step (by repeat (first | (with_reducible first | exact HB.out | apply below_alloc | apply pw_below_drewN | apply below_drew1 | refine below_set ?_ GE279.out | refine below_set ?_ GE280.out | refine below_set ?_ GE281.out) | exact HB.out)) hb); have n4_ := Aside0.mk (hbox); have n5_ := Aside0.mk ((by rw [hg]; exact (below_size (by repeat (first | (with_reducible first | exact HB.out | apply below_alloc | apply pw_below_drewN | apply below_drew1 | refine below_set ?_ GE279.out | refine below_set ?_ GE280.out | refine below_set ?_ GE281.out) | exact HB.out))) : w.heap.size ≤ gb284)); have n6_ := Aside0.mk ((by rw [hg]; exact (below_size (by repeat (first | (with_reducible first | exact HB.out | apply below_alloc | apply pw_below_drewN | apply below_drew1 | refine below_set ?_ GE279.out | refine below_set ?_ GE280.out | refine below_set ?_ GE281.out) | exact HB.out))) : w.heap.size ≤ gb284)); have n7_ := Aside0.mk ((by rw [hg]; exact Nat.ne_of_lt (blk_lt (g := gb279) (o := .cells #[.slice A1_0 l1_0.length c1_0, .int .i64 a1_1] 27 (0, 0)) (by (with_reducible repeat (first | refine blk_drewN ?_ _ | refine blk_drew ?_ | refine blk_alloc ?_ _)); exact BK279.out)) : gb279 ≠ gb284)); have n8_ := Aside0.mk ((by rw [hg]; exact Nat.ne_of_gt (blk_lt (g := gb279) (o := .cells #[.slice A1_0 l1_0.length c1_0, .int .i64 a1_1] 27 (0, 0)) (by (with_reducible repeat (first | refine blk_drewN ?_ _ | refine blk_drew ?_ | refine blk_alloc ?_ _)); exact BK279.out)) : gb284 ≠ gb279)); have n9_ := Aside0.mk ((by rw [hg]; exact Nat.ne_of_lt (blk_lt (g := gb280) (o := .cells #[.slice A2_0 l2_0.length c2_0, .int .i64 a2_1] 27 (0, 0)) (by (with_reducible repeat (first | refine blk_drewN ?_ _ | refine blk_drew ?_ | refine blk_alloc ?_ _)); exact BK280.out)) : gb280 ≠ gb284)); have n10_ := Aside0.mk ((by rw [hg]; exact Nat.ne_of_gt (blk_lt (g := gb280) (o := .cells #[.slice A2_0 l2_0.length c2_0, .int .i64 a2_1] 27 (0, 0)) (by (with_reducible repeat (first | refine blk_drewN ?_ _ | refine blk_drew ?_ | refine blk_alloc ?_ _)); exact BK280.out)) : gb284 ≠ gb280)); have n11_ := Aside0.mk ((by rw [hg]; exact Nat.ne_of_lt (blk_lt (g := gb281) (o := .cells #[.slice none 0 0, .int .i64 0] 27 (0, 0)) (by (with_reducible repeat (first | refine blk_drewN ?_ _ | refine blk_drew ?_ | refine blk_alloc ?_ _)); exact BK281.out)) : gb281 ≠ gb284)); have n12_ := Aside0.mk ((by rw [hg]; exact Nat.ne_of_gt (blk_lt (g := gb281) (o := .cells #[.slice none 0 0, .int .i64 0] 27 (0, 0)) (by (with_reducible repeat (first | refine blk_drewN ?_ _ | refine blk_drew ?_ | refine blk_alloc ?_ _)); exact BK281.out)) : gb284 ≠ gb281)); clear BK279; clear BK280; clear BK281; try clear HB; have BK279 := n0_; have BK280 := n1_; have BK281 := n2_; have HB := n3_; have BK284 := n4_; have GW284 := n5_; have GE284 := n6_; have NB279_284 := n7_; have NB284_279 := n8_; have NB280_284 := n9_; have NB284_280 := n10_; have NB281_284 := n11_; have NB284_281 := n12_; clear n0_ n1_ n2_ n3_ n4_ n5_ n6_ n7_ n8_ n9_ n10_ n11_ n12_; clear hb hbox hg; have hnb32 := NB284_279.out; have hnc32 := NB279_284.out; have hnb33 := NB284_280.out; have hnc33 := NB280_284.out; have hnb34 := NB284_281.out; have hnc34 := NB281_284.out; have hcz35_0 : w31.cell? ⟨gb284, 0, none⟩ = some (.slice none 0 0) := (blk_cell BK284.out 0).trans rfl; have hcz35_1 : w31.cell? ⟨gb284, 1, none⟩ = some (.int .i64 0) := (blk_cell BK284.out 1).trans rfl; have hfz35_0 := blk_frozen BK284.out 0; have hfz35_1 := blk_frozen BK284.out 1; have hcz36_0 : w31.cell? ⟨gb279, 0, none⟩ = some (.slice A1_0 l1_0.length c1_0) := (blk_cell BK279.out 0).trans rfl; have hcz36_1 : w31.cell? ⟨gb279, 1, none⟩ = some (.int .i64 a1_1) := (blk_cell BK279.out 1).trans rfl; have hfz36_0 := blk_frozen BK279.out 0; have hfz36_1 := blk_frozen BK279.out 1))
      go_loopg [36] kj3 (fun kq v36 w' => ∃ (x36_2 : Int) (x285000_2 : List (List Int)) (u285000 : Value), v36 = .int .i64 x36_2 ∧ Aside0 (impl_MoveMul.l0 kq l0 l1_0 (l1_0.length : Int) x36_2 l2_0 a2_1 x285000_2 (wrap64 (a1_1 * a2_1)) = some (r1, r2, r3)) ∧ Aside0 (kq ≤ kj3) ∧ Aside0 (Kd.S (Kd.slice 3 (Kd.int .i64)) 23 w' w.heap.size (fun _ => True) u285000 x285000_2) ∧ Aside0 (w'.heap[gb279]? = some (.cells #[(.slice A1_0 l1_0.length c1_0), .int .i64 a1_1] 27 (0, 0))) ∧ Aside0 (w'.heap[gb280]? = some (.cells #[(.slice A2_0 l2_0.length c2_0), .int .i64 a2_1] 27 (0, 0))) ∧ Aside0 (w'.heap[gb281]? = some (.cells #[(.slice none 0 0), .int .i64 0] 27 (0, 0))) ∧ Aside0 (w'.heap[gb284]? = some (.cells #[u285000, .int .i64 (wrap64 (a1_1 * a2_1))] 27 (0, 0))) ∧ Aside0 (Below w.heap.size w w'))
      case atStart => exact ⟨(0), (([] : List (List Int))), (.slice none 0 0), (by first | rfl | (simp; done) | (simp [*]; done)), H', ⟨Nat.le_refl _⟩, ⟨by first | exact Kd.S_nil _ _ _ _ _ | exact Kd.N_nil _ _ _ _ _ | exact Kd.V_nil _ _ _ _ _ | exact Kd.Q_nil _ _ _ _ _ | exact Kd.R_nil _ _ _ _ _⟩, ⟨by (with_reducible repeat (first | refine blk_drewN ?_ _ | refine blk_drew ?_ | refine blk_alloc ?_ _)); refine blk_far ?_ NB279_284.out _; (with_reducible repeat (first | refine blk_drewN ?_ _ | refine blk_drew ?_ | refine blk_alloc ?_ _)); refine blk_far ?_ NB279_284.out _; (with_reducible repeat (first | refine blk_drewN ?_ _ | refine blk_drew ?_ | refine blk_alloc ?_ _)); exact BK279.out⟩, ⟨by (with_reducible repeat (first | refine blk_drewN ?_ _ | refine blk_drew ?_ | refine blk_alloc ?_ _)); refine blk_far ?_ NB280_284.out _; (with_reducible repeat (first | refine blk_drewN ?_ _ | refine blk_drew ?_ | refine blk_alloc ?_ _)); refine blk_far ?_ NB280_284.out _; (with_reducible repeat (first | refine blk_drewN ?_ _ | refine blk_drew ?_ | refine blk_alloc ?_ _)); exact BK280.out⟩, ⟨by (with_reducible repeat (first | refine blk_drewN ?_ _ | refine blk_drew ?_ | refine blk_alloc ?_ _)); refine blk_far ?_ NB281_284.out _; (with_reducible repeat (first | refine blk_drewN ?_ _ | refine blk_drew ?_ | refine blk_alloc ?_ _)); refine blk_far ?_ NB281_284.out _; (with_reducible repeat (first | refine blk_drewN ?_ _ | refine blk_drew ?_ | refine blk_alloc ?_ _)); exact BK281.out⟩, ⟨by (with_reducible repeat (first | refine blk_drewN ?_ _ | refine blk_drew ?_ | refine blk_alloc ?_ _)); refine blk_put (cs := #[.slice none 0 0, .int .i64 0]) ?_ 1 _ rfl; (with_reducible repeat (first | refine blk_drewN ?_ _ | refine blk_drew ?_ | refine blk_alloc ?_ _)); refine blk_put (cs := #[.slice none 0 0, .int .i64 0]) ?_ 0 _ rfl; (with_reducible repeat (first | refine blk_drewN ?_ _ | refine blk_drew ?_ | refine blk_alloc ?_ _)); exact BK284.out⟩, ⟨by repeat (first | (with_reducible first | exact HB.out | apply below_alloc | apply pw_below_drewN | apply below_drew1 | refine below_set ?_ GE279.out | refine below_set ?_ GE280.out | refine below_set ?_ GE281.out | refine below_set ?_ GE284.out) | exact HB.out)⟩⟩
      case round =>
        clear H'
        try clear c1
        try clear c2
        try clear p2
        try clear c3
        try clear p6
        try clear c9
        try clear c11
        try clear c12
        try clear c15
        try clear c18
        try clear c19
        try clear c21
        try clear c22
        try clear c23
        try clear c24
        try clear c26
        try clear c27
        try clear c29
        try clear c32
        try clear c33
        try clear c34
        try clear hcz13_0
        try clear hcz13_1
        try clear hcz16_0
        try clear hcz16_1
        try clear hcz20_0
        try clear hcz20_1
        try clear hcz25_0
        try clear hcz25_1
        try clear hcz28_0
        try clear hcz28_1
        try clear hcz30_0
        try clear hcz30_1
        try clear hcz35_0
        try clear hcz35_1
        try clear hcz36_0
        try clear hcz36_1
        try clear hfz13_0
        try clear hfz13_1
        try clear hfz16_0
        try clear hfz16_1
        try clear hfz20_0
        try clear hfz20_1
        try clear hfz25_0
        try clear hfz25_1
        try clear hfz28_0
        try clear hfz28_1
        try clear hfz30_0
        try clear hfz30_1
        try clear hfz35_0
        try clear hfz35_1
        try clear hfz36_0
        try clear hfz36_1
        try clear p2
        obtain ⟨x36_2, x285000_2, u285000, rfl, HA, HK2, HO_285000, BK279, BK280, BK281, BK284, HB⟩ := hrel
        cases gk with
        | zero => exact absurd HA.out (by simp [impl_MoveMul.l0])
        | succ k2 =>
          have H := HA.out
          clear HA
          simp only [impl_MoveMul.l0] at H
          by_cases c37 : x36_2 < (l1_0.length : Int)
          · rw [if_pos c37] at H
            have c37b0 : decide (x36_2 < (l1_0.length : Int)) = true := decide_eq_true c37
            clear c37
            by_cases c38 : 0 ≤ x36_2
            · rw [if_pos c38] at H
              have c38b0 : decide (0 ≤ x36_2) = true := decide_eq_true c38
              clear c38
              by_cases c39 : x36_2 < (l1_0.length : Int)
              · rw [if_pos c39] at H
                have c39b0 : decide (x36_2 < (l1_0.length : Int)) = true := decide_eq_true c39
                clear c39
                obtain ⟨y291, hy291⟩ : ∃ y_ : List Int, y_ = (([] : List Int)) := ⟨_, rfl⟩
                replace H : (impl_MoveMul.l1 k2 l0 (rd_L2 l1_0 x36_2) y291 l1_0 (l1_0.length : Int) x36_2 (l0.length : Int) 0 l2_0 a2_1 x285000_2 (wrap64 (a1_1 * a2_1))) = some (r1, r2, r3) := by first | (rw [hy291]; with_reducible exact H) | (have H2_ := (Option.bind_some _ _).symm.trans H; rw [hy291]; with_reducible exact H2_) | (have H2_ := (Option.bind_some _ _).symm.trans H; with_reducible exact H2_) | with_reducible exact H | (rw [hy291]; exact H) | exact H
                have Ny291 := Aside0.mk hy291
                clear hy291
                have H' := Aside0.mk H
                clear H
                have p290 : 0 ≤ (x36_2 : Int) := of_decide_eq_true (by first | (with_reducible assumption) | assumption)
                have q290 : x36_2 < (l1_0.length : Int) := of_decide_eq_true (by first | (with_reducible assumption) | assumption)
                obtain ⟨ad290, A290_0, c290_0, e290, hx290_0, hl290_0, hi290_0⟩ := at_L2 HR1_0.out x36_2 p290 q290
                cases e290
                replace hx290_0 := (HB.out.cell (World.block_lt_of_cell? w _ hx290_0)).trans hx290_0
                have HR290_0 := Aside0.mk hi290_0
                have HC290_0 := Aside0.mk hl290_0
                clear hi290_0 hl290_0
                replace p290 := eq_true p290
                replace q290 := eq_true q290
                go_wp2_with (first | ((with_reducible refine gate_dst (N := 40) rfl ?_); refine Kd.R_lit (Kd.int .i64) _ 3 ?hg (N := 40) ?hd (xs := ([] : List Int)) (inner := []) (ok := fun _ => True) (okp := fun _ => True) ?hr ?hp (fun _ hk => hk) trivial (Below.refl _ _) (Nat.le_refl _) (by simp) ?_; (case hd => rfl); (case hg => rfl); (case hr => first | (go_simp; done) | (go_simp; rfl)); (case hp => exact (Reps.none _ _)); intro v292 w40 ho41 hb hg_ hnew_; clear hg_ hnew_; (first | rw [← Ny291.out] at ho41 | (simp only [Int.reduceToNat] at ho41; rw [← Ny291.out] at ho41)); have n0_ := Aside0.mk (Kd.S_elder' (by (with_reducible repeat (first | apply Kd.S_alloc | apply Kd.S_drewN | apply Kd.S_drew)); exact HO_285000.out) (Kd.R_base ho41) hb); have n1_ := Aside0.mk (Kd.R_lower ho41 (below_size (by repeat (first | (with_reducible first | exact HB.out | apply below_alloc | apply pw_below_drewN | apply below_drew1 | refine below_set ?_ GE279.out | refine below_set ?_ GE280.out | refine below_set ?_ GE281.out | refine below_set ?_ GE284.out) | exact HB.out)))); have n2_ := Aside0.mk (blk_below (g := gb279) (o := .cells #[.slice (some ad290) l1_0.length c1_0, .int .i64 a1_1] 27 (0, 0)) (by (with_reducible repeat (first | refine blk_drewN ?_ _ | refine blk_drew ?_ | refine blk_alloc ?_ _)); exact BK279.out) hb); have n3_ := Aside0.mk (blk_below (g := gb280) (o := .cells #[.slice A2_0 l2_0.length c2_0, .int .i64 a2_1] 27 (0, 0)) (by (with_reducible repeat (first | refine blk_drewN ?_ _ | refine blk_drew ?_ | refine blk_alloc ?_ _)); exact BK280.out) hb); have n4_ := Aside0.mk (blk_below (g := gb281) (o := .cells #[.slice none 0 0, .int .i64 0] 27 (0, 0)) (by (with_reducible repeat (first | refine blk_drewN ?_ _ | refine blk_drew ?_ | refine blk_alloc ?_ _)); exact BK281.out) hb); have n5_ := Aside0.mk (blk_below (g := gb284) (o := .cells #[u285000, .int .i64 (wrap64 (a1_1 * a2_1))] 27 (0, 0)) (by (with_reducible repeat (first | refine blk_drewN ?_ _ | refine blk_drew ?_ | refine blk_alloc ?_ _)); exact BK284.out) hb); have n6_ := Aside0.mk (below_step (by repeat (first | (with_reducible first | exact HB.out | apply below_alloc | apply pw_below_drewN | apply below_drew1 | refine below_set ?_ GE279.out | refine below_set ?_ GE280.out | refine below_set ?_ GE281.out | refine below_set ?_ GE284.out) | exact HB.out)) hb); clear HO_285000; clear BK279; clear BK280; clear BK281; clear BK284; try clear HB; have HO_285000 := n0_; have HO293 := n1_; have BK279 := n2_; have BK280 := n3_; have BK281 := n4_; have BK284 := n5_; have HB := n6_; clear n0_ n1_ n2_ n3_ n4_ n5_ n6_; clear hb ho41))
                go_loopg [11, 43] k2 (fun kq v11 v43 w' => ∃ (x11_3 : List Int) (x43_3 : Int), v43 = .int .i64 x43_3 ∧ Aside0 (impl_MoveMul.l1 kq l0 (rd_L2 l1_0 x36_2) x11_3 l1_0 (l1_0.length : Int) x36_2 (l0.length : Int) x43_3 l2_0 a2_1 x285000_2 (wrap64 (a1_1 * a2_1)) = some (r1, r2, r3)) ∧ Aside0 (kq ≤ k2) ∧ Aside0 (Kd.R (Kd.int .i64) 3 w' w.heap.size (fun _ => True) v11 x11_3) ∧ Aside0 (Kd.S (Kd.slice 3 (Kd.int .i64)) 23 w' w.heap.size (fun k_ => some k_ ≠ (v11 : Value).ownBlock) u285000 x285000_2) ∧ Aside0 (w'.heap[gb279]? = some (.cells #[(.slice (some ad290) l1_0.length c1_0), .int .i64 a1_1] 27 (0, 0))) ∧ Aside0 (w'.heap[gb280]? = some (.cells #[(.slice A2_0 l2_0.length c2_0), .int .i64 a2_1] 27 (0, 0))) ∧ Aside0 (w'.heap[gb281]? = some (.cells #[(.slice none 0 0), .int .i64 0] 27 (0, 0))) ∧ Aside0 (w'.heap[gb284]? = some (.cells #[u285000, .int .i64 (wrap64 (a1_1 * a2_1))] 27 (0, 0))) ∧ Aside0 (Below w.heap.size w w'))
                case atStart => exact ⟨(y291), (0), (by first | rfl | (simp; done) | (simp [*]; done)), H', ⟨Nat.le_refl _⟩, ⟨by (with_reducible repeat (first | apply Kd.R_alloc | apply Kd.R_drewN | apply Kd.R_drew)); exact HO293.out⟩, ⟨by (with_reducible repeat (first | apply Kd.S_alloc | apply Kd.S_drewN | apply Kd.S_drew)); exact Kd.S_mono HO_285000.out (fun _ hk => hk.2)⟩, ⟨by (with_reducible repeat (first | refine blk_drewN ?_ _ | refine blk_drew ?_ | refine blk_alloc ?_ _)); exact BK279.out⟩, ⟨by (with_reducible repeat (first | refine blk_drewN ?_ _ | refine blk_drew ?_ | refine blk_alloc ?_ _)); exact BK280.out⟩, ⟨by (with_reducible repeat (first | refine blk_drewN ?_ _ | refine blk_drew ?_ | refine blk_alloc ?_ _)); exact BK281.out⟩, ⟨by (with_reducible repeat (first | refine blk_drewN ?_ _ | refine blk_drew ?_ | refine blk_alloc ?_ _)); exact BK284.out⟩, ⟨by repeat (first | (with_reducible first | exact HB.out | apply below_alloc | apply pw_below_drewN | apply below_drew1 | refine below_set ?_ GE279.out | refine below_set ?_ GE280.out | refine below_set ?_ GE281.out | refine below_set ?_ GE284.out) | exact HB.out)⟩⟩
                case round =>
                  clear H'
                  try clear c1
                  try clear c2
                  try clear p2
                  try clear q2
                  try clear hx2
                  try clear c3
                  try clear p6
                  try clear c9
                  try clear c11
                  try clear c12
                  try clear c15
                  try clear c18
                  try clear c19
                  try clear c21
                  try clear c22
                  try clear c23
                  try clear c24
                  try clear c26
                  try clear c27
                  try clear c29
                  try clear p29
                  try clear q29
                  try clear hx29
                  try clear c32
                  try clear c33
                  try clear c34
                  try clear c37
                  try clear c37b0
                  try clear c38
                  try clear c38b0
                  try clear c39
                  try clear c39b0
                  try clear hcz13_0
                  try clear hcz13_1
                  try clear hcz16_0
                  try clear hcz16_1
                  try clear hcz20_0
                  try clear hcz20_1
                  try clear hcz25_0
                  try clear hcz25_1
                  try clear hcz28_0
                  try clear hcz28_1
                  try clear hcz30_0
                  try clear hcz30_1
                  try clear hcz35_0
                  try clear hcz35_1
                  try clear hcz36_0
                  try clear hcz36_1
                  try clear hfz13_0
                  try clear hfz13_1
                  try clear hfz16_0
                  try clear hfz16_1
                  try clear hfz20_0
                  try clear hfz20_1
                  try clear hfz25_0
                  try clear hfz25_1
                  try clear hfz28_0
                  try clear hfz28_1
                  try clear hfz30_0
                  try clear hfz30_1
                  try clear hfz35_0
                  try clear hfz35_1
                  try clear hfz36_0
                  try clear hfz36_1
                  try clear hx290_0
                  try clear p2
                  try clear p290
                  try clear p6
                  try clear q290
                  obtain ⟨x11_3, x43_3, rfl, HA, HK3, HO_11, HO_285000, BK279, BK280, BK281, BK284, HB⟩ := hrel
                  cases gk with
                  | zero => exact absurd HA.out (by simp [impl_MoveMul.l1])
                  | succ k3 =>
                    have H := HA.out
                    clear HA
                    simp only [impl_MoveMul.l1] at H
                    by_cases c42 : x43_3 < (l0.length : Int)
                    · rw [if_pos c42] at H
                      have c42b0 : decide (x43_3 < (l0.length : Int)) = true := decide_eq_true c42
                      clear c42
                      replace H := Option.bind_eq_some_iff.mp H
                      obtain ⟨t297, A430, H⟩ := H
                      replace H : (impl_MoveMul.l2 k3 l0 (rd_L2 l1_0 x36_2) x11_3 0 l1_0 (l1_0.length : Int) x36_2 (l0.length : Int) x43_3 t297 (t297.length : Int) 0 l2_0 a2_1 x285000_2 (wrap64 (a1_1 * a2_1))) = some (r1, r2, r3) := H
                      have A43 := Aside0.mk A430
                      clear A430
                      have H' := Aside0.mk H
                      clear H
                      have hnb44 := NB280_279.out
                      have hnc44 := NB279_280.out
                      have hnb45 := NB280_281.out
                      have hnc45 := NB281_280.out
                      have hnb46 := NB280_284.out
                      have hnc46 := NB284_280.out
                      have hcz47_0 : wr.cell? ⟨gb280, 0, none⟩ = some (.slice A2_0 l2_0.length c2_0) := (blk_cell BK280.out 0).trans rfl
                      have hcz47_1 : wr.cell? ⟨gb280, 1, none⟩ = some (.int .i64 a2_1) := (blk_cell BK280.out 1).trans rfl
                      have hfz47_0 := blk_frozen BK280.out 0
                      have hfz47_1 := blk_frozen BK280.out 1
                      go_wp2_with (first | ((with_reducible refine gate_callee (f := 59) rfl ?_); refine goesL_ (some 48) rfl rfl Try.func59 (by kernel_rfl) rfl #[.agg #[.slice A2_0 l2_0.length c2_0, .int .i64 a2_1], .int .i64 x43_3] rfl (by (try simp only [List.map_toArray, List.map_cons, List.map_nil]); first | done | rfl | (simp only [List.length_drop, List.length_take]; rfl)) ?_; (with_reducible refine (impl_column.calls k3 _ _ l2_0 a2_1 x43_3 t297 _ ?side1 ?side2 A43.out).mono ?_); (case side1 => repeat (first | exact (Kd.C_below HR2_0.out HB.out) | (with_reducible refine Kd.C_alloc ?_ _) | (with_reducible refine Kd.C_drewN ?_ _) | (with_reducible refine Kd.C_drew ?_))); (case side2 => exact HC2_0.out); rintro e w48 ⟨v298, rfl, ho0, hb⟩; refine ⟨_, rfl, ?_⟩; have n0_ := Aside0.mk (Kd.R_elder' (by (with_reducible repeat (first | apply Kd.R_alloc | apply Kd.R_drewN | apply Kd.R_drew)); exact HO_11.out) (Kd.R_base ho0) hb); have n1_ := Aside0.mk (Kd.S_elder' (by (with_reducible repeat (first | apply Kd.S_alloc | apply Kd.S_drewN | apply Kd.S_drew)); exact HO_285000.out) (Kd.R_base ho0) hb); have n2_ := Aside0.mk (Kd.R_lower (Kd.R_new' ho0 (Kd.R_lt (by (with_reducible repeat (first | apply Kd.R_alloc | apply Kd.R_drewN | apply Kd.R_drew)); exact HO_11.out))) (below_size (by repeat (first | (with_reducible first | exact HB.out | apply below_alloc | apply pw_below_drewN | apply below_drew1 | refine below_set ?_ GE279.out | refine below_set ?_ GE280.out | refine below_set ?_ GE281.out | refine below_set ?_ GE284.out) | exact HB.out)))); have n3_ := Aside0.mk (blk_below (g := gb279) (o := .cells #[.slice (some ad290) l1_0.length c1_0, .int .i64 a1_1] 27 (0, 0)) (by (with_reducible repeat (first | refine blk_drewN ?_ _ | refine blk_drew ?_ | refine blk_alloc ?_ _)); exact BK279.out) hb); have n4_ := Aside0.mk (blk_below (g := gb280) (o := .cells #[.slice A2_0 l2_0.length c2_0, .int .i64 a2_1] 27 (0, 0)) (by (with_reducible repeat (first | refine blk_drewN ?_ _ | refine blk_drew ?_ | refine blk_alloc ?_ _)); exact BK280.out) hb); have n5_ := Aside0.mk (blk_below (g := gb281) (o := .cells #[.slice none 0 0, .int .i64 0] 27 (0, 0)) (by (with_reducible repeat (first | refine blk_drewN ?_ _ | refine blk_drew ?_ | refine blk_alloc ?_ _)); exact BK281.out) hb); have n6_ := Aside0.mk (blk_below (g := gb284) (o := .cells #[u285000, .int .i64 (wrap64 (a1_1 * a2_1))] 27 (0, 0)) (by (with_reducible repeat (first | refine blk_drewN ?_ _ | refine blk_drew ?_ | refine blk_alloc ?_ _)); exact BK284.out) hb); have n7_ := Aside0.mk (below_step (by repeat (first | (with_reducible first | exact HB.out | apply below_alloc | apply pw_below_drewN | apply below_drew1 | refine below_set ?_ GE279.out | refine below_set ?_ GE280.out | refine below_set ?_ GE281.out | refine below_set ?_ GE284.out) | exact HB.out)) hb); clear HO_11; clear HO_285000; clear BK279; clear BK280; clear BK281; clear BK284; try clear HB; have HO_11 := n0_; have HO_285000 := n1_; have HO299 := n2_; have BK279 := n3_; have BK280 := n4_; have BK281 := n5_; have BK284 := n6_; have HB := n7_; clear n0_ n1_ n2_ n3_ n4_ n5_ n6_ n7_; (try clear hb); (try clear hb2); (try clear hk); (try clear hi); (try clear ho0); obtain ⟨Ao49, co49, eo49⟩ := Kd.R_slice HO299.out; subst eo49))
                      go_loopg [13, 50] k3 (fun kq v13 v50 w' => ∃ (x13_4 : Int) (x50_4 : Int), v13 = .int .i64 x13_4 ∧ v50 = .int .i64 x50_4 ∧ Aside0 (impl_MoveMul.l2 kq l0 (rd_L2 l1_0 x36_2) x11_3 x13_4 l1_0 (l1_0.length : Int) x36_2 (l0.length : Int) x43_3 t297 (t297.length : Int) x50_4 l2_0 a2_1 x285000_2 (wrap64 (a1_1 * a2_1)) = some (r1, r2, r3)) ∧ Aside0 (kq ≤ k3) ∧ Aside0 (Kd.R (Kd.int .i64) 3 w' w.heap.size (fun k_ => some k_ ≠ ((.slice Ao49 t297.length co49) : Value).ownBlock) u11 x11_3) ∧ Aside0 (Kd.R (Kd.int .i64) 3 w' w.heap.size (fun k_ => some k_ ≠ (u11 : Value).ownBlock) (.slice Ao49 t297.length co49) t297) ∧ Aside0 (Kd.S (Kd.slice 3 (Kd.int .i64)) 23 w' w.heap.size (fun k_ => some k_ ≠ (u11 : Value).ownBlock ∧ some k_ ≠ ((.slice Ao49 t297.length co49) : Value).ownBlock) u285000 x285000_2) ∧ Aside0 (w'.heap[gb279]? = some (.cells #[(.slice (some ad290) l1_0.length c1_0), .int .i64 a1_1] 27 (0, 0))) ∧ Aside0 (w'.heap[gb280]? = some (.cells #[(.slice A2_0 l2_0.length c2_0), .int .i64 a2_1] 27 (0, 0))) ∧ Aside0 (w'.heap[gb281]? = some (.cells #[(.slice none 0 0), .int .i64 0] 27 (0, 0))) ∧ Aside0 (w'.heap[gb284]? = some (.cells #[u285000, .int .i64 (wrap64 (a1_1 * a2_1))] 27 (0, 0))) ∧ Aside0 (Below w.heap.size w w'))
                      case atStart => exact ⟨(0), (0), (by first | rfl | (simp; done) | (simp [*]; done)), (by first | rfl | (simp; done) | (simp [*]; done)), H', ⟨Nat.le_refl _⟩, ⟨by (with_reducible repeat (first | apply Kd.R_alloc | apply Kd.R_drewN | apply Kd.R_drew)); exact Kd.R_mono HO_11.out (fun _ hk => hk.2)⟩, ⟨by (with_reducible repeat (first | apply Kd.R_alloc | apply Kd.R_drewN | apply Kd.R_drew)); exact Kd.R_mono HO299.out (fun _ hk => hk.2)⟩, ⟨by (with_reducible repeat (first | apply Kd.S_alloc | apply Kd.S_drewN | apply Kd.S_drew)); exact HO_285000.out⟩, ⟨by (with_reducible repeat (first | refine blk_drewN ?_ _ | refine blk_drew ?_ | refine blk_alloc ?_ _)); exact BK279.out⟩, ⟨by (with_reducible repeat (first | refine blk_drewN ?_ _ | refine blk_drew ?_ | refine blk_alloc ?_ _)); exact BK280.out⟩, ⟨by (with_reducible repeat (first | refine blk_drewN ?_ _ | refine blk_drew ?_ | refine blk_alloc ?_ _)); exact BK281.out⟩, ⟨by (with_reducible repeat (first | refine blk_drewN ?_ _ | refine blk_drew ?_ | refine blk_alloc ?_ _)); exact BK284.out⟩, ⟨by repeat (first | (with_reducible first | exact HB.out | apply below_alloc | apply pw_below_drewN | apply below_drew1 | refine below_set ?_ GE279.out | refine below_set ?_ GE280.out | refine below_set ?_ GE281.out | refine below_set ?_ GE284.out) | exact HB.out)⟩⟩
                      case round =>
                        clear H'
                        try clear c1
                        try clear c2
                        try clear p2
                        try clear q2
                        try clear hx2
                        try clear c3
                        try clear c4
                        try clear c5
                        try clear p6
                        try clear c9
                        try clear c11
                        try clear c12
                        try clear c15
                        try clear c18
                        try clear c19
                        try clear c21
                        try clear c22
                        try clear c23
                        try clear c24
                        try clear c26
                        try clear c27
                        try clear c29
                        try clear p29
                        try clear q29
                        try clear hx29
                        try clear c32
                        try clear c33
                        try clear c34
                        try clear c37
                        try clear c37b0
                        try clear c38
                        try clear c38b0
                        try clear c39
                        try clear c39b0
                        try clear c42
                        try clear c42b0
                        try clear c44
                        try clear c45
                        try clear c46
                        try clear hcz13_0
                        try clear hcz13_1
                        try clear hcz16_0
                        try clear hcz16_1
                        try clear hcz20_0
                        try clear hcz20_1
                        try clear hcz25_0
                        try clear hcz25_1
                        try clear hcz28_0
                        try clear hcz28_1
                        try clear hcz30_0
                        try clear hcz30_1
                        try clear hcz35_0
                        try clear hcz35_1
                        try clear hcz36_0
                        try clear hcz36_1
                        try clear hcz47_0
                        try clear hcz47_1
                        try clear hfz13_0
                        try clear hfz13_1
                        try clear hfz16_0
                        try clear hfz16_1
                        try clear hfz20_0
                        try clear hfz20_1
                        try clear hfz25_0
                        try clear hfz25_1
                        try clear hfz28_0
                        try clear hfz28_1
                        try clear hfz30_0
                        try clear hfz30_1
                        try clear hfz35_0
                        try clear hfz35_1
                        try clear hfz36_0
                        try clear hfz36_1
                        try clear hfz47_0
                        try clear hfz47_1
                        try clear hx290_0
                        try clear p2
                        try clear p29
                        try clear p290
                        try clear p6
                        try clear q2
                        try clear q29
                        try clear q290
                        obtain ⟨x13_4, x50_4, rfl, rfl, HA, HK4, HO_11, HO_48, HO_285000, BK279, BK280, BK281, BK284, HB⟩ := hrel
                        cases gk with
                        | zero => exact absurd HA.out (by simp [impl_MoveMul.l2])
                        | succ k4 =>
                          have H := HA.out
                          clear HA
                          simp only [impl_MoveMul.l2] at H
                          by_cases c50 : x50_4 < (t297.length : Int)
                          · rw [if_pos c50] at H
                            have c50b0 : decide (x50_4 < (t297.length : Int)) = true := decide_eq_true c50
                            clear c50
                            by_cases c51 : 0 ≤ x50_4
                            · rw [if_pos c51] at H
                              have c51b0 : decide (0 ≤ x50_4) = true := decide_eq_true c51
                              clear c51
                              by_cases c52 : x50_4 < (t297.length : Int)
                              · rw [if_pos c52] at H
                                have c52b0 : decide (x50_4 < (t297.length : Int)) = true := decide_eq_true c52
                                clear c52
                                by_cases c53 : x50_4 < ((rd_L2 l1_0 x36_2).length : Int)
                                · rw [if_pos c53] at H
                                  have c53b0 : decide (x50_4 < ((rd_L2 l1_0 x36_2).length : Int)) = true := decide_eq_true c53
                                  clear c53
                                  have H' := Aside0.mk H
                                  clear H
                                  have p300 : 0 ≤ (x50_4 : Int) := of_decide_eq_true (by first | (with_reducible assumption) | assumption)
                                  have q300 : x50_4 < (t297.length : Int) := of_decide_eq_true (by first | (with_reducible assumption) | assumption)
                                  obtain ⟨ad300, e300, hx300_0⟩ := Kd.at_int (Kd.R_reads' HO_48.out).2.2 x50_4 p300 q300
                                  cases e300
                                  replace p300 := eq_true p300
                                  replace q300 := eq_true q300
                                  have p301 : 0 ≤ (x50_4 : Int) := of_decide_eq_true (by first | (with_reducible assumption) | assumption)
                                  have q301 : x50_4 < ((rd_L2 l1_0 x36_2).length : Int) := of_decide_eq_true (by first | (with_reducible assumption) | assumption)
                                  obtain ⟨ad301, e301, hx301_0⟩ := Kd.at_int HR290_0.out x50_4 p301 q301
                                  cases e301
                                  replace hx301_0 := (HB.out.cell (World.block_lt_of_cell? w _ hx301_0)).trans hx301_0
                                  replace p301 := eq_true p301
                                  replace q301 := eq_true q301
                                  go_wp2
                                  go_roundg k4
                                  case measure => have := HJ3.out; have := HK2.out; have := HK3.out; have := HK4.out; omega
                                  case rel => exact ⟨(wrap64 (x13_4 + (wrap64 ((rd (rd_L2 l1_0 x36_2) x50_4) * (rd t297 x50_4))))), (wrap64 (x50_4 + 1)), (by first | rfl | (simp; done) | (simp [*]; done)), (by first | rfl | (simp; done) | (simp [*]; done)), H', ⟨by have := HJ3.out; have := HK2.out; have := HK3.out; have := HK4.out; omega⟩, ⟨by (with_reducible repeat (first | apply Kd.R_alloc | apply Kd.R_drewN | apply Kd.R_drew)); exact HO_11.out⟩, ⟨by (with_reducible repeat (first | apply Kd.R_alloc | apply Kd.R_drewN | apply Kd.R_drew)); exact HO_48.out⟩, ⟨by (with_reducible repeat (first | apply Kd.S_alloc | apply Kd.S_drewN | apply Kd.S_drew)); exact HO_285000.out⟩, ⟨by (with_reducible repeat (first | refine blk_drewN ?_ _ | refine blk_drew ?_ | refine blk_alloc ?_ _)); exact BK279.out⟩, ⟨by (with_reducible repeat (first | refine blk_drewN ?_ _ | refine blk_drew ?_ | refine blk_alloc ?_ _)); exact BK280.out⟩, ⟨by (with_reducible repeat (first | refine blk_drewN ?_ _ | refine blk_drew ?_ | refine blk_alloc ?_ _)); exact BK281.out⟩, ⟨by (with_reducible repeat (first | refine blk_drewN ?_ _ | refine blk_drew ?_ | refine blk_alloc ?_ _)); exact BK284.out⟩, ⟨by repeat (first | (with_reducible first | exact HB.out | apply below_alloc | apply pw_below_drewN | apply below_drew1 | refine below_set ?_ GE279.out | refine below_set ?_ GE280.out | refine below_set ?_ GE281.out | refine below_set ?_ GE284.out) | exact HB.out)⟩⟩
                                rw [if_neg c53] at H
                                exact absurd H (by simp)
                              rw [if_neg c52] at H
                              exact absurd H (by simp)
                            rw [if_neg c51] at H
                            exact absurd H (by simp)
                          rw [if_neg c50] at H
                          have c50b0 : decide (x50_4 < (t297.length : Int)) = false := decide_eq_false c50
                          clear c50
                          by_cases c54 : x11_3.length < 17592186044416
                          · rw [if_pos c54] at H
                            have LMc54 := Aside0.mk c54
                            clear c54
                            obtain ⟨y302, hy302⟩ : ∃ y_ : List Int, y_ = (x11_3 ++ [x13_4]) := ⟨_, rfl⟩
                            replace H : (impl_MoveMul.l1 k4 l0 (rd_L2 l1_0 x36_2) y302 l1_0 (l1_0.length : Int) x36_2 (l0.length : Int) (wrap64 (x43_3 + 1)) l2_0 a2_1 x285000_2 (wrap64 (a1_1 * a2_1))) = some (r1, r2, r3) := by first | (rw [hy302]; with_reducible exact H) | (have H2_ := (Option.bind_some _ _).symm.trans H; rw [hy302]; with_reducible exact H2_) | (have H2_ := (Option.bind_some _ _).symm.trans H; with_reducible exact H2_) | with_reducible exact H | (rw [hy302]; exact H) | exact H
                            have Ny302 := Aside0.mk hy302
                            clear hy302
                            have H' := Aside0.mk H
                            clear H
                            go_wp2_with (first | ((with_reducible refine gate_builtin (b := .append) (xs := #[.tmp 64, .tmp 66]) rfl ?_); at_builtin; refine Kd.R_append (Kd.int .i64) (w0 := w) w.heap.size rfl (.tmp 64) (.tmp 66) 23 3 (.int .i64 0) 8 rfl Try.underlying23 info3 rfl (by decide) (by omega) u11 x11_3 x13_4 [.int .i64 x13_4] (fun k_ => some k_ ≠ (.slice Ao49 t297.length co49 : Value).ownBlock) (fun _ => False) rfl rfl ?aP (fun _ hk => hk.elim) ?aF ?aO ?aB ?aS ?aL ?_; (case aP => exact rfl); (case aB => exact (by repeat (first | (with_reducible first | exact HB.out | apply below_alloc | apply pw_below_drewN | apply below_drew1 | refine below_set ?_ GE279.out | refine below_set ?_ GE280.out | refine below_set ?_ GE281.out | refine below_set ?_ GE284.out) | exact HB.out))); (case aF => exact (fun k_ hk => Kd.fresh' (Kd.R_lt (by (with_reducible repeat (first | apply Kd.R_alloc | apply Kd.R_drewN | apply Kd.R_drew)); exact HO_48.out)) k_ hk)); (case aO => exact (by (with_reducible repeat (first | apply Kd.R_alloc | apply Kd.R_drewN | apply Kd.R_drew)); exact HO_11.out)); (case aS => exact (below_size (by repeat (first | (with_reducible first | exact HB.out | apply below_alloc | apply pw_below_drewN | apply below_drew1 | refine below_set ?_ GE279.out | refine below_set ?_ GE280.out | refine below_set ?_ GE281.out | refine below_set ?_ GE284.out) | exact HB.out)))); (case aL => have := LMc54.out; omega); intro v303 w55 ho hb hg hat; rw [← Ny302.out] at ho; have n0_ := Aside0.mk (Kd.R_after (ok := (fun _ => True)) (by (with_reducible repeat (first | apply Kd.R_alloc | apply Kd.R_drewN | apply Kd.R_drew)); exact Kd.R_mono HO_48.out (fun _ hk => ⟨trivial, hk⟩)) hg hat); have n1_ := Aside0.mk (Kd.S_after (ok := (fun k_ => some k_ ≠ (.slice Ao49 t297.length co49 : Value).ownBlock)) (by (with_reducible repeat (first | apply Kd.S_alloc | apply Kd.S_drewN | apply Kd.S_drew)); exact Kd.S_mono HO_285000.out (fun _ hk => ⟨hk.2, hk.1⟩)) hg hat); have n2_ := Aside0.mk (blk_grown (g := gb279) (o := .cells #[.slice (some ad290) l1_0.length c1_0, .int .i64 a1_1] 27 (0, 0)) (by (with_reducible repeat (first | refine blk_drewN ?_ _ | refine blk_drew ?_ | refine blk_alloc ?_ _)); exact BK279.out) hg (Kd.R_ne HO_11.out BK279.out (by decide))); have n3_ := Aside0.mk (blk_grown (g := gb280) (o := .cells #[.slice A2_0 l2_0.length c2_0, .int .i64 a2_1] 27 (0, 0)) (by (with_reducible repeat (first | refine blk_drewN ?_ _ | refine blk_drew ?_ | refine blk_alloc ?_ _)); exact BK280.out) hg (Kd.R_ne HO_11.out BK280.out (by decide))); have n4_ := Aside0.mk (blk_grown (g := gb281) (o := .cells #[.slice none 0 0, .int .i64 0] 27 (0, 0)) (by (with_reducible repeat (first | refine blk_drewN ?_ _ | refine blk_drew ?_ | refine blk_alloc ?_ _)); exact BK281.out) hg (Kd.R_ne HO_11.out BK281.out (by decide))); have n5_ := Aside0.mk (blk_grown (g := gb284) (o := .cells #[u285000, .int .i64 (wrap64 (a1_1 * a2_1))] 27 (0, 0)) (by (with_reducible repeat (first | refine blk_drewN ?_ _ | refine blk_drew ?_ | refine blk_alloc ?_ _)); exact BK284.out) hg (Kd.R_ne HO_11.out BK284.out (by decide))); have n6_ := Aside0.mk (hb); have n7_ := Aside0.mk (ho); clear HO_48; clear HO_285000; clear BK279; clear BK280; clear BK281; clear BK284; try clear HB; clear HO_11; have HO_48 := n0_; have HO_285000 := n1_; have BK279 := n2_; have BK280 := n3_; have BK281 := n4_; have BK284 := n5_; have HB := n6_; have HO304 := n7_; clear n0_ n1_ n2_ n3_ n4_ n5_ n6_ n7_; clear ho hb hg hat))
                            go_roundg k4
                            case measure => have := HJ3.out; have := HK2.out; have := HK3.out; have := HK4.out; omega
                            case rel => exact ⟨(y302), (wrap64 (x43_3 + 1)), (by first | rfl | (simp; done) | (simp [*]; done)), H', ⟨by have := HJ3.out; have := HK2.out; have := HK3.out; have := HK4.out; omega⟩, ⟨by (with_reducible repeat (first | apply Kd.R_alloc | apply Kd.R_drewN | apply Kd.R_drew)); exact Kd.R_mono HO304.out (fun _ hk => trivial)⟩, ⟨by (with_reducible repeat (first | apply Kd.S_alloc | apply Kd.S_drewN | apply Kd.S_drew)); exact Kd.S_mono HO_285000.out (fun _ hk => hk.2)⟩, ⟨by (with_reducible repeat (first | refine blk_drewN ?_ _ | refine blk_drew ?_ | refine blk_alloc ?_ _)); exact BK279.out⟩, ⟨by (with_reducible repeat (first | refine blk_drewN ?_ _ | refine blk_drew ?_ | refine blk_alloc ?_ _)); exact BK280.out⟩, ⟨by (with_reducible repeat (first | refine blk_drewN ?_ _ | refine blk_drew ?_ | refine blk_alloc ?_ _)); exact BK281.out⟩, ⟨by (with_reducible repeat (first | refine blk_drewN ?_ _ | refine blk_drew ?_ | refine blk_alloc ?_ _)); exact BK284.out⟩, ⟨by repeat (first | (with_reducible first | exact HB.out | apply below_alloc | apply pw_below_drewN | apply below_drew1 | refine below_set ?_ GE279.out | refine below_set ?_ GE280.out | refine below_set ?_ GE281.out | refine below_set ?_ GE284.out) | exact HB.out)⟩⟩
                          rw [if_neg c54] at H
                          exact absurd H (by simp)
                    rw [if_neg c42] at H
                    have c42b0 : decide (x43_3 < (l0.length : Int)) = false := decide_eq_false c42
                    clear c42
                    by_cases c56 : x285000_2.length < 5864062014805
                    · rw [if_pos c56] at H
                      have LMc56 := Aside0.mk c56
                      clear c56
                      obtain ⟨y294, hy294⟩ : ∃ y_ : List (List Int), y_ = (x285000_2 ++ [x11_3]) := ⟨_, rfl⟩
                      replace H : (impl_MoveMul.l0 k3 l0 l1_0 (l1_0.length : Int) (wrap64 (x36_2 + 1)) l2_0 a2_1 y294 (wrap64 (a1_1 * a2_1))) = some (r1, r2, r3) := by first | (rw [hy294]; with_reducible exact H) | (have H2_ := (Option.bind_some _ _).symm.trans H; rw [hy294]; with_reducible exact H2_) | (have H2_ := (Option.bind_some _ _).symm.trans H; with_reducible exact H2_) | with_reducible exact H | (rw [hy294]; exact H) | exact H
                      have Ny294 := Aside0.mk hy294
                      clear hy294
                      have H' := Aside0.mk H
                      clear H
                      have hnb57 := NB284_279.out
                      have hnc57 := NB279_284.out
                      have hnb58 := NB284_280.out
                      have hnc58 := NB280_284.out
                      have hnb59 := NB284_281.out
                      have hnc59 := NB281_284.out
                      have hcz60_0 : wr.cell? ⟨gb284, 0, none⟩ = some (u285000) := (blk_cell BK284.out 0).trans rfl
                      have hcz60_1 : wr.cell? ⟨gb284, 1, none⟩ = some (.int .i64 (wrap64 (a1_1 * a2_1))) := (blk_cell BK284.out 1).trans rfl
                      have hfz60_0 := blk_frozen BK284.out 0
                      have hfz60_1 := blk_frozen BK284.out 1
                      obtain ⟨Ao62, co62, eo62⟩ := Kd.R_slice HO_11.out
                      subst eo62
                      go_wp2_with (first | ((with_reducible refine gate_builtin (b := .append) (xs := #[.tmp 70, .tmp 72]) rfl ?_); at_builtin; refine Kd.S_append (Kd.slice 3 (Kd.int .i64)) (w0 := w) w.heap.size rfl (.tmp 70) (.tmp 72) 25 23 (.slice none 0 0) 24 rfl Try.underlying25 info23 rfl (by decide) (by omega) u285000 x285000_2 x11_3 [.slice Ao62 x11_3.length co62] (fun _ => True) (fun k_ => some k_ = (.slice Ao62 x11_3.length co62 : Value).ownBlock) rfl rfl ?aP (fun k_ hk_ => ((Kd.R_mono (ok' := fun k_ => ((fun _ => True)) k_ ∧ some k_ ≠ (u285000 : Value).ownBlock) (Kd.R_apart' (HO_11.out) (Kd.S_typed HO_285000.out) (by decide)) (fun k_ hk => ⟨trivial, hk.2⟩))).1 k_ hk_.symm) ?aF ?aO ?aB ?aS ?aL ?_; (case aP => exact Kd.M_row (Kd.R_mono (Kd.R_tight rfl (Kd.R_mono (ok' := fun k_ => ((fun _ => True)) k_ ∧ some k_ ≠ (u285000 : Value).ownBlock) (Kd.R_apart' (HO_11.out) (Kd.S_typed HO_285000.out) (by decide)) (fun k_ hk => ⟨trivial, hk.2⟩))) (fun _ h_ => h_))); (case aB => exact (by repeat (first | (with_reducible first | exact HB.out | apply below_alloc | apply pw_below_drewN | apply below_drew1 | refine below_set ?_ GE279.out | refine below_set ?_ GE280.out | refine below_set ?_ GE281.out | refine below_set ?_ GE284.out) | exact HB.out))); (case aF => exact (fun _ _ => trivial)); (case aO => exact (by (with_reducible repeat (first | apply Kd.S_alloc | apply Kd.S_drewN | apply Kd.S_drew)); exact Kd.S_mono HO_285000.out (fun k_ hk => ⟨trivial, fun e_ => hk e_⟩))); (case aS => exact (below_size (by repeat (first | (with_reducible first | exact HB.out | apply below_alloc | apply pw_below_drewN | apply below_drew1 | refine below_set ?_ GE279.out | refine below_set ?_ GE280.out | refine below_set ?_ GE281.out | refine below_set ?_ GE284.out) | exact HB.out)))); (case aL => have := LMc56.out; omega); intro v295 w61 ho hb hg hat; rw [← Ny294.out] at ho; have n0_ := Aside0.mk (blk_grown (g := gb279) (o := .cells #[.slice (some ad290) l1_0.length c1_0, .int .i64 a1_1] 27 (0, 0)) (by (with_reducible repeat (first | refine blk_drewN ?_ _ | refine blk_drew ?_ | refine blk_alloc ?_ _)); exact BK279.out) hg (Kd.S_ne HO_285000.out BK279.out (by decide))); have n1_ := Aside0.mk (blk_grown (g := gb280) (o := .cells #[.slice A2_0 l2_0.length c2_0, .int .i64 a2_1] 27 (0, 0)) (by (with_reducible repeat (first | refine blk_drewN ?_ _ | refine blk_drew ?_ | refine blk_alloc ?_ _)); exact BK280.out) hg (Kd.S_ne HO_285000.out BK280.out (by decide))); have n2_ := Aside0.mk (blk_grown (g := gb281) (o := .cells #[.slice none 0 0, .int .i64 0] 27 (0, 0)) (by (with_reducible repeat (first | refine blk_drewN ?_ _ | refine blk_drew ?_ | refine blk_alloc ?_ _)); exact BK281.out) hg (Kd.S_ne HO_285000.out BK281.out (by decide))); have n3_ := Aside0.mk (blk_grown (g := gb284) (o := .cells #[u285000, .int .i64 (wrap64 (a1_1 * a2_1))] 27 (0, 0)) (by (with_reducible repeat (first | refine blk_drewN ?_ _ | refine blk_drew ?_ | refine blk_alloc ?_ _)); exact BK284.out) hg (Kd.S_ne HO_285000.out BK284.out (by decide))); have n4_ := Aside0.mk (hb); have n5_ := Aside0.mk (ho); clear BK279; clear BK280; clear BK281; clear BK284; try clear HB; clear HO_285000; clear HO_11; have BK279 := n0_; have BK280 := n1_; have BK281 := n2_; have BK284 := n3_; have HB := n4_; have HO296 := n5_; clear n0_ n1_ n2_ n3_ n4_ n5_; clear ho hb hg hat; obtain ⟨Ao63, co63, eo63⟩ := Kd.S_slice HO296.out; subst eo63; have hcz64_0 : w61.cell? ⟨gb284, 0, none⟩ = some (u285000) := (blk_cell BK284.out 0).trans rfl; have hcz64_1 : w61.cell? ⟨gb284, 1, none⟩ = some (.int .i64 (wrap64 (a1_1 * a2_1))) := (blk_cell BK284.out 1).trans rfl; have hfz64_0 := blk_frozen BK284.out 0; have hfz64_1 := blk_frozen BK284.out 1))
                      go_roundg k3
                      case measure => have := HJ3.out; have := HK2.out; have := HK3.out; omega
                      case rel => exact ⟨(wrap64 (x36_2 + 1)), (y294), (.slice Ao63 y294.length co63), (by first | rfl | (simp; done) | (simp [*]; done)), H', ⟨by have := HJ3.out; have := HK2.out; have := HK3.out; omega⟩, ⟨by (with_reducible repeat (first | apply Kd.S_alloc | apply Kd.S_drewN | apply Kd.S_drew)); exact Kd.S_mono (Kd.S_far (p := ⟨gb284, 0, none⟩) (Kd.S_types HO296.out BK284.out (by decide)) (fun _ hk => hk.2) (.slice Ao63 y294.length co63)) (fun _ hk => trivial)⟩, ⟨by (with_reducible repeat (first | refine blk_drewN ?_ _ | refine blk_drew ?_ | refine blk_alloc ?_ _)); refine blk_far ?_ NB279_284.out _; (with_reducible repeat (first | refine blk_drewN ?_ _ | refine blk_drew ?_ | refine blk_alloc ?_ _)); exact BK279.out⟩, ⟨by (with_reducible repeat (first | refine blk_drewN ?_ _ | refine blk_drew ?_ | refine blk_alloc ?_ _)); refine blk_far ?_ NB280_284.out _; (with_reducible repeat (first | refine blk_drewN ?_ _ | refine blk_drew ?_ | refine blk_alloc ?_ _)); exact BK280.out⟩, ⟨by (with_reducible repeat (first | refine blk_drewN ?_ _ | refine blk_drew ?_ | refine blk_alloc ?_ _)); refine blk_far ?_ NB281_284.out _; (with_reducible repeat (first | refine blk_drewN ?_ _ | refine blk_drew ?_ | refine blk_alloc ?_ _)); exact BK281.out⟩, ⟨by (with_reducible repeat (first | refine blk_drewN ?_ _ | refine blk_drew ?_ | refine blk_alloc ?_ _)); refine blk_put (cs := #[u285000, .int .i64 (wrap64 (a1_1 * a2_1))]) ?_ 0 _ rfl; (with_reducible repeat (first | refine blk_drewN ?_ _ | refine blk_drew ?_ | refine blk_alloc ?_ _)); exact BK284.out⟩, ⟨by repeat (first | (with_reducible first | exact HB.out | apply below_alloc | apply pw_below_drewN | apply below_drew1 | refine below_set ?_ GE279.out | refine below_set ?_ GE280.out | refine below_set ?_ GE281.out | refine below_set ?_ GE284.out) | exact HB.out)⟩⟩
                    rw [if_neg c56] at H
                    exact absurd H (by simp)
              rw [if_neg c39] at H
              exact absurd H (by simp)
            rw [if_neg c38] at H
            exact absurd H (by simp)
          rw [if_neg c37] at H
          have c37b0 : decide (x36_2 < (l1_0.length : Int)) = false := decide_eq_false c37
          clear c37
          replace H := Option.bind_eq_some_iff.mp H
          obtain ⟨⟨t285, t288, t289⟩, A650, H⟩ := H
          replace H : (some (t285, t288, t289)) = some (r1, r2, r3) := H
          have A65 := Aside0.mk A650
          clear A650
          simp only [Option.some.injEq, Prod.mk.injEq] at H
          obtain ⟨rfl, rfl, rfl⟩ := H
          have hnb66 := NB284_279.out
          have hnc66 := NB279_284.out
          have hnb67 := NB284_280.out
          have hnc67 := NB280_284.out
          have hnb68 := NB284_281.out
          have hnc68 := NB281_284.out
          have hcz69_0 : wr.cell? ⟨gb284, 0, none⟩ = some (u285000) := (blk_cell BK284.out 0).trans rfl
          have hcz69_1 : wr.cell? ⟨gb284, 1, none⟩ = some (.int .i64 (wrap64 (a1_1 * a2_1))) := (blk_cell BK284.out 1).trans rfl
          have hfz69_0 := blk_frozen BK284.out 0
          have hfz69_1 := blk_frozen BK284.out 1
          obtain ⟨Ao70, co70, eo70⟩ := Kd.S_slice HO_285000.out
          subst eo70
          go_wp2_with (first | ((with_reducible refine gate_callee (f := 58) rfl ?_); refine goesL_ (some 78) rfl rfl Try.func58 (by kernel_rfl) rfl #[.slice A0 l0.length c0, .agg #[.slice Ao70 x285000_2.length co70, .int .i64 (wrap64 (a1_1 * a2_1))]] rfl (by (try simp only [List.map_toArray, List.map_cons, List.map_nil]); first | done | rfl | (simp only [List.length_drop, List.length_take]; rfl)) ?_; (with_reducible refine (impl_lowest.calls k2 _ _ l0 _ _ x285000_2 (wrap64 (a1_1 * a2_1)) t285 t288 t289 _ ?side1 ?side2 ?side3 ?side4 A65.out).mono ?_); (case side1 => repeat (first | exact (Kd.C_below HR0.out HB.out) | (with_reducible refine Kd.C_alloc ?_ _) | (with_reducible refine Kd.C_drewN ?_ _) | (with_reducible refine Kd.C_drew ?_))); (case side2 => exact HC0.out); (case side3 => repeat (first | exact (Kd.S_reads' HO_285000.out).2.2 | (with_reducible refine Kd.C_alloc ?_ _) | (with_reducible refine Kd.C_drewN ?_ _) | (with_reducible refine Kd.C_drew ?_))); (case side4 => exact (Kd.S_reads' HO_285000.out).2.1); rintro e w71 ⟨v286, rfl, ho0, hb⟩; refine ⟨_, rfl, ?_⟩; have n0_ := Aside0.mk (Kd.S_elder' (by (with_reducible repeat (first | apply Kd.S_alloc | apply Kd.S_drewN | apply Kd.S_drew)); exact HO_285000.out) (Kd.S_base ho0) hb); have n1_ := Aside0.mk (Kd.S_lower (Kd.S_new' ho0 (Kd.S_lt (by (with_reducible repeat (first | apply Kd.S_alloc | apply Kd.S_drewN | apply Kd.S_drew)); exact HO_285000.out))) (below_size (by repeat (first | (with_reducible first | exact HB.out | apply below_alloc | apply pw_below_drewN | apply below_drew1 | refine below_set ?_ GE279.out | refine below_set ?_ GE280.out | refine below_set ?_ GE281.out | refine below_set ?_ GE284.out) | exact HB.out)))); have n2_ := Aside0.mk (blk_below (g := gb279) (o := .cells #[.slice A1_0 l1_0.length c1_0, .int .i64 a1_1] 27 (0, 0)) (by (with_reducible repeat (first | refine blk_drewN ?_ _ | refine blk_drew ?_ | refine blk_alloc ?_ _)); exact BK279.out) hb); have n3_ := Aside0.mk (blk_below (g := gb280) (o := .cells #[.slice A2_0 l2_0.length c2_0, .int .i64 a2_1] 27 (0, 0)) (by (with_reducible repeat (first | refine blk_drewN ?_ _ | refine blk_drew ?_ | refine blk_alloc ?_ _)); exact BK280.out) hb); have n4_ := Aside0.mk (blk_below (g := gb281) (o := .cells #[.slice none 0 0, .int .i64 0] 27 (0, 0)) (by (with_reducible repeat (first | refine blk_drewN ?_ _ | refine blk_drew ?_ | refine blk_alloc ?_ _)); exact BK281.out) hb); have n5_ := Aside0.mk (blk_below (g := gb284) (o := .cells #[.slice Ao70 x285000_2.length co70, .int .i64 (wrap64 (a1_1 * a2_1))] 27 (0, 0)) (by (with_reducible repeat (first | refine blk_drewN ?_ _ | refine blk_drew ?_ | refine blk_alloc ?_ _)); exact BK284.out) hb); have n6_ := Aside0.mk (below_step (by repeat (first | (with_reducible first | exact HB.out | apply below_alloc | apply pw_below_drewN | apply below_drew1 | refine below_set ?_ GE279.out | refine below_set ?_ GE280.out | refine below_set ?_ GE281.out | refine below_set ?_ GE284.out) | exact HB.out)) hb); clear HO_285000; clear BK279; clear BK280; clear BK281; clear BK284; try clear HB; have HO_285000 := n0_; have HO287 := n1_; have BK279 := n2_; have BK280 := n3_; have BK281 := n4_; have BK284 := n5_; have HB := n6_; clear n0_ n1_ n2_ n3_ n4_ n5_ n6_; (try clear hb); (try clear hb2); (try clear hk); (try clear hi); (try clear ho0); obtain ⟨Ao72, co72, eo72⟩ := Kd.S_slice HO287.out; subst eo72; have hnb73 := NB281_279.out; have hnc73 := NB279_281.out; have hnb74 := NB281_280.out; have hnc74 := NB280_281.out; have hcz75_0 : w71.cell? ⟨gb281, 0, none⟩ = some (.slice none 0 0) := (blk_cell BK281.out 0).trans rfl; have hcz75_1 : w71.cell? ⟨gb281, 1, none⟩ = some (.int .i64 0) := (blk_cell BK281.out 1).trans rfl; have hfz75_0 := blk_frozen BK281.out 0; have hfz75_1 := blk_frozen BK281.out 1))
          refine bodyPost_ret (results_ct rfl _ _ gb281 27 #[.slice Ao72 t285.length co72, .int .i64 t288] (0, 0) _ rfl (by (with_reducible repeat (first | refine blk_drewN ?_ _ | refine blk_drew ?_ | refine blk_alloc ?_ _)); refine blk_put (cs := #[.slice Ao72 t285.length co72, .int .i64 0]) ?_ 1 _ rfl; (with_reducible repeat (first | refine blk_drewN ?_ _ | refine blk_drew ?_ | refine blk_alloc ?_ _)); refine blk_put (cs := #[.slice none 0 0, .int .i64 0]) ?_ 0 _ rfl; (with_reducible repeat (first | refine blk_drewN ?_ _ | refine blk_drew ?_ | refine blk_alloc ?_ _)); exact BK281.out) Try.underlying27 rfl (by kernel_rfl)) rfl ?_
          exact ⟨_, by first | rfl | (simp [errW_none, errW_some] <;> rfl) | (simp [*, errW_none, errW_some] <;> rfl), by (with_reducible repeat (first | apply Kd.S_alloc | apply Kd.S_drewN | apply Kd.S_drew)); exact Kd.S_mono (Kd.S_far (p := ⟨gb281, 1, none⟩) (Kd.S_far (p := ⟨gb281, 0, none⟩) (Kd.S_types HO287.out BK281.out (by decide)) (fun _ hk => hk.2) (.slice Ao72 t285.length co72)) (fun _ hk => hk.2) (.int .i64 t288)) (fun _ hk => trivial), by repeat (first | (with_reducible first | exact HB.out | apply below_alloc | apply pw_below_drewN | apply below_drew1 | refine below_set ?_ GE279.out | refine below_set ?_ GE280.out | refine below_set ?_ GE281.out | refine below_set ?_ GE284.out) | exact HB.out)⟩

/-! ### impl_product: function 61 -/
def impl_product.l0 : Nat → Int → List Int → Int → Int → Option (Int)
  | 0, _, _, _, _ => none
  | k + 1, x3, x6, x7, x8 => if x8 < x7 then (if 0 ≤ x8 then (if x8 < (x6.length : Int) then (impl_product.l0 k (wrap64 (x3 * (rd x6 x8))) x6 x7 (wrap64 (x8 + 1))) else (none)) else (none)) else (some x3)
def impl_product.f (k : Nat) (l0 : List Int) : Option (Int) := impl_product.l0 k 1 l0 (l0.length : Int) 0
theorem impl_product.mono_l : ∀ k, (∀ y0 y1 y2 y3, LeO (impl_product.l0 k y0 y1 y2 y3) (impl_product.l0 (k + 1) y0 y1 y2 y3))
  | 0 => fun _ _ _ _ r h => by simp [impl_product.l0] at h
  | k + 1 => by
    have ih0 := impl_product.mono_l k
    · intro y0 y1 y2 y3
      unfold impl_product.l0
      repeat' first
      | (with_reducible exact ih0 _ _ _ _)
      | (with_reducible exact LeO.refl _)
      | (with_reducible exact LeO.none _)
      | (with_reducible refine LeO.ite ?_ ?_)
      | (with_reducible refine LeO.bind ?_ (fun _ => ?_))
      | exact ih0 _ _ _ _
      | exact LeO.none _
      | refine LeO.ite ?_ ?_
      | refine LeO.bind ?_ (fun _ => ?_)
theorem impl_product.mono : ∀ a0 k, LeO (impl_product.f k a0) (impl_product.f (k + 1) a0) := by
  intro a0 k
  have ih0 := impl_product.mono_l k
  unfold impl_product.f
  repeat' first
      | (with_reducible exact ih0 _ _ _ _)
      | (with_reducible exact LeO.refl _)
      | (with_reducible exact LeO.none _)
      | (with_reducible refine LeO.ite ?_ ?_)
      | (with_reducible refine LeO.bind ?_ (fun _ => ?_))
      | exact ih0 _ _ _ _
      | exact LeO.none _
      | refine LeO.ite ?_ ?_
      | refine LeO.bind ?_ (fun _ => ?_)
set_option maxHeartbeats 8000000 in
set_option maxRecDepth 100000 in
theorem impl_product.calls (k : Nat) (A0 : Option Addr) (c0 : Nat) (l0 : List Int) (r : Int) (w : World) (hr0 : Kd.C (Kd.int .i64) w A0 l0.length l0) (hc0 : l0.length ≤ c0) (h : impl_product.f k l0 = some r) :
    Calls Try.prog 61 #[.slice A0 l0.length c0] w fun e w' => e = .returned (.int .i64 r) ∧ Drawn0 w w' := by
  have HR0 := Aside0.mk hr0
  have HC0 := Aside0.mk hc0
  clear hr0 hc0
  have H : (impl_product.l0 k 1 l0 (l0.length : Int) 0) = some r := h
  clear h
  have H' := Aside0.mk H
  clear H
  go_enter Try.func61, Try.ntmps61
  go_wp2
  go_loopg [3, 8] k (fun kq v3 v8 w' => ∃ (x3_1 : Int) (x8_1 : Int), v3 = .int .i64 x3_1 ∧ v8 = .int .i64 x8_1 ∧ Aside0 (impl_product.l0 kq x3_1 l0 (l0.length : Int) x8_1 = some r) ∧ Aside0 (kq ≤ k) ∧ Drawn0 w w')
  case atStart => exact ⟨(1), (0), (by first | rfl | (simp; done) | (simp [*]; done)), (by first | rfl | (simp; done) | (simp [*]; done)), H', ⟨Nat.le_refl _⟩, by repeat (first | exact Drawn0.refl _ | apply Drawn0.step)⟩
  case round =>
    clear H'
    obtain ⟨x3_1, x8_1, rfl, rfl, HA, HK1, ⟨m1, rfl⟩⟩ := hrel
    cases gk with
    | zero => exact absurd HA.out (by simp [impl_product.l0])
    | succ k1 =>
      have H := HA.out
      clear HA
      simp only [impl_product.l0] at H
      by_cases c2 : x8_1 < (l0.length : Int)
      · rw [if_pos c2] at H
        have c2b0 : decide (x8_1 < (l0.length : Int)) = true := decide_eq_true c2
        clear c2
        by_cases c3 : 0 ≤ x8_1
        · rw [if_pos c3] at H
          have c3b0 : decide (0 ≤ x8_1) = true := decide_eq_true c3
          clear c3
          by_cases c4 : x8_1 < (l0.length : Int)
          · rw [if_pos c4] at H
            have c4b0 : decide (x8_1 < (l0.length : Int)) = true := decide_eq_true c4
            clear c4
            have H' := Aside0.mk H
            clear H
            have p305 : 0 ≤ (x8_1 : Int) := of_decide_eq_true (by first | (with_reducible assumption) | assumption)
            have q305 : x8_1 < (l0.length : Int) := of_decide_eq_true (by first | (with_reducible assumption) | assumption)
            obtain ⟨ad305, e305, hx305_0⟩ := Kd.at_int HR0.out x8_1 p305 q305
            cases e305
            replace p305 := eq_true p305
            replace q305 := eq_true q305
            go_wp2
            go_roundg k1
            case measure => have := HK1.out; omega
            case rel => exact ⟨(wrap64 (x3_1 * (rd l0 x8_1))), (wrap64 (x8_1 + 1)), (by first | rfl | (simp; done) | (simp [*]; done)), (by first | rfl | (simp; done) | (simp [*]; done)), H', ⟨by have := HK1.out; omega⟩, by repeat (first | exact Drawn0.refl _ | apply Drawn0.step)⟩
          rw [if_neg c4] at H
          exact absurd H (by simp)
        rw [if_neg c3] at H
        exact absurd H (by simp)
      rw [if_neg c2] at H
      have c2b0 : decide (x8_1 < (l0.length : Int)) = false := decide_eq_false c2
      clear c2
      obtain rfl := Option.some.inj H
      go_wp2
      go_ret
      exact ⟨by first | rfl | (simp; done) | (simp [*]; done), by repeat (first | exact Drawn0.refl _ | apply Drawn0.step)⟩

end Go.Proofs.Ytnbeeogmaamgdaa.PFnStay
