-- Written by a program of this session (wip/print2.py): the functions that the law reaches, plain, and the walks.
import Derived.Test.YtnbeeogmaamgdaaPFnStayx0
import Derived.Test.YtnbeeogmaamgdaaPFnStayx3
import Derived.Test.YtnbeeogmaamgdaaPFnStayx4
namespace Go.Proofs.Ytnbeeogmaamgdaa.PFnStay
open Go.RowKit Go.Proofs.YtnbeeogmaamgdaaW.PrintWords Go.Proofs.YtnbeeogmaamgdaaW.PrintLast Go.Proofs.YtnbeeogmaamgdaaW.PrintMore
attribute [local go_sem] max2_int min2_int max_two min_two max_three min_three max_four min_four   -- for this text's walks alone
set_option linter.unusedVariables false
set_option linter.unusedSimpArgs false

/-! ### slices_Clone_int_int: function 66 -/
/-- A copy, in new memory. -/
def slices_Clone_int_int.f (l0 : List Int) : Option (List Int) := if l0.length < 17592186044416 then some l0 else none
set_option maxHeartbeats 4000000 in
set_option maxRecDepth 100000 in
theorem slices_Clone_int_int.calls (A0 : Option Addr) (c0 : Nat) (l0 : List Int) (r : List Int) (w : World) (hr0 : Kd.C (Kd.int .i64) w A0 l0.length l0) (hc0 : l0.length ≤ c0) (h : slices_Clone_int_int.f l0 = some r) :
    Calls Try.prog 66 #[.slice A0 l0.length c0] w fun e w' => ∃ v0_ : Value, e = .returned (v0_) ∧ Kd.R (Kd.int .i64) 3 w' w.heap.size (fun _ => True) v0_ r ∧ Below w.heap.size w w' := by
  have hl : l0.length < 17592186044416 := by
    unfold slices_Clone_int_int.f at h
    split at h
    · assumption
    · cases h
  have hr : l0 = r := by
    unfold slices_Clone_int_int.f at h
    rw [if_pos hl] at h
    exact Option.some.inj h
  have LM := Aside0.mk hl
  have HR0 := Aside0.mk hr0
  have HC0 := Aside0.mk hc0
  have HB := Aside0.mk (Below.refl w.heap.size w)
  clear h hl hc0
  cases A0 with
  | none =>
    have hl0 : l0 = [] := by
      rcases Nat.eq_zero_or_pos l0.length with h0 | h0
      · exact List.eq_nil_of_length_eq_zero h0
      · obtain ⟨ad, he, _⟩ := hr0.2.2 h0
        cases he
    subst hl0
    subst hr
    clear hr0 LM
    have he := fun (w : World) => Go.run_eql_slice_nil (P := Try.prog) w 23 3 none 0 c0 Try.underlying23
    go_enter Try.func66, Try.ntmps66
    go_wp2
    go_ret
    exact ⟨_, rfl, Kd.R_nil _ _ _ _ _, HB.out⟩
  | some ad =>
    subst hr
    clear hr0
    have he := fun (w : World) => Go.run_eql_slice_nil (P := Try.prog) w 23 3 (some ad) l0.length c0 Try.underlying23
    go_enter Try.func66, Try.ntmps66
    go_wp2_with (first | ((with_reducible refine gate_dst (N := 5) rfl ?_); refine Kd.R_lit (Kd.int .i64) _ 3 ?hg (N := 5) ?hd (xs := ([] : List Int)) (inner := []) (ok := fun _ => True) (okp := fun _ => True) ?hr ?hp (fun _ hk => hk) trivial (Below.refl _ _) (Nat.le_refl _) (by simp) ?_; (case hd => rfl); (case hg => rfl); (case hr => first | (go_simp; done) | (go_simp; rfl)); (case hp => exact (Reps.none _ _)); intro v1 w4 ho5 hb hg_ hnew_; clear hg_ hnew_; have n0_ := Aside0.mk ho5; have n1_ := Aside0.mk hb; try clear HB; have HO := n0_; have HB := n1_; clear n0_ n1_ hb ho5) | ((with_reducible refine gate_builtin (b := .append) (xs := #[.tmp 5, .tmp 6]) rfl ?_); at_builtin; refine Kd.R_append_rows (Kd.int .i64) (w0 := w) w.heap.size rfl (.tmp 5) (.tmp 6) 23 3 (.int .i64 0) 8 rfl Try.underlying23 info3 rfl (by decide) (by omega) v1 [] l0 _ _ _ (fun _ => True) (fun _ => False) rfl rfl ?aO ?aR (fun _ _ h => h) (fun _ h => h.elim) ?aF ?aB ?aS ?aL ?_; (case aR => exact Kd.C_below HR0.out HB.out); (case aB => exact HB.out); (case aF => exact (fun _ _ => trivial)); (case aO => exact HO.out); (case aS => exact below_size HB.out); (case aL => have := LM.out; simp; omega); intro v126 w29 ho hb hg hat; have n1_ := Aside0.mk hb; have n2_ := Aside0.mk ho; clear HB HO; have HB := n1_; have HO := n2_; clear n1_ n2_ ho hb hg hat))
    go_ret
    exact ⟨_, rfl, by simpa using HO.out, HB.out⟩

/-! ### impl_lowest: function 58 -/
mutual
def impl_lowest.l0 : Nat → List Int → Int → List (List Int) → Int → Int → List (List Int) → Int → Option ((List (List Int)) × Int × Bool)
  | 0, _, _, _, _, _, _, _ => none
  | k + 1, x0, x6, x20, x21, x22, x228000, x228001 => if x22 < x21 then (if 0 ≤ x22 then (if x22 < (x20.length : Int) then ((slices_Clone_int_int.f (rd_L2 x20 x22)).bind fun t234 => (if t234.length < 17592186044416 then ((impl_gcd.f k (t234 ++ [x6])).bind fun t240 => (impl_lowest.l0 k x0 t240 x20 x21 (wrap64 (x22 + 1)) x228000 x228001)) else (none))) else (none)) else (none)) else (if x228001 < 0 then (impl_lowest.j1 k x0 (wrap64 (-x6)) x228000 x228001) else (impl_lowest.j1 k x0 x6 x228000 x228001))
def impl_lowest.j1 : Nat → List Int → Int → List (List Int) → Int → Option ((List (List Int)) × Int × Bool)
  | 0, _, _, _, _ => none
  | k + 1, x0, x6, x228000, x228001 => if x6 = 0 then (none) else (impl_lowest.l1 k x0 x6 x228000 (x228000.length : Int) 0 ([] : List (List Int)) (wrap64 (Int.tdiv x228001 x6)))
def impl_lowest.l1 : Nat → List Int → Int → List (List Int) → Int → Int → List (List Int) → Int → Option ((List (List Int)) × Int × Bool)
  | 0, _, _, _, _, _, _, _ => none
  | k + 1, x0, x6, x44, x45, x46, x242000, x242001 => if x46 < x45 then (if 0 ≤ x46 then (if x46 < (x44.length : Int) then (impl_lowest.l2 k x0 x6 (([] : List Int)) x44 x45 x46 (rd_L2 x44 x46) ((rd_L2 x44 x46).length : Int) 0 x242000 x242001) else (none)) else (none)) else ((impl_MoveValid.f k x0 x242000 x242001).bind fun t242 => (if t242 = true then (some (x242000, x242001, true)) else (some (([] : List (List Int)), 0, false))))
def impl_lowest.l2 : Nat → List Int → Int → List Int → List (List Int) → Int → Int → List Int → Int → Int → List (List Int) → Int → Option ((List (List Int)) × Int × Bool)
  | 0, _, _, _, _, _, _, _, _, _, _, _ => none
  | k + 1, x0, x6, x12, x44, x45, x46, x51, x52, x53, x242000, x242001 => if x53 < x52 then (if 0 ≤ x53 then (if x53 < (x51.length : Int) then (if x6 = 0 then (none) else (if x12.length < 17592186044416 then (impl_lowest.l2 k x0 x6 (x12 ++ [wrap64 (Int.tdiv (rd x51 x53) x6)]) x44 x45 x46 x51 x52 (wrap64 (x53 + 1)) x242000 x242001) else (none))) else (none)) else (none)) else (if x242000.length < 5864062014805 then (impl_lowest.l1 k x0 x6 x44 x45 (wrap64 (x46 + 1)) (x242000 ++ [x12]) x242001) else (none))
end
def impl_lowest.f (k : Nat) (l0 : List Int) (l1_0 : List (List Int)) (a1_1 : Int) : Option ((List (List Int)) × Int × Bool) := (impl_gcd.f k (([a1_1] : List Int))).bind fun t232 => (impl_lowest.l0 k l0 t232 l1_0 (l1_0.length : Int) 0 l1_0 a1_1)
theorem impl_lowest.mono_l : ∀ k, (∀ y0 y1 y2 y3 y4 y5 y6, LeO (impl_lowest.l0 k y0 y1 y2 y3 y4 y5 y6) (impl_lowest.l0 (k + 1) y0 y1 y2 y3 y4 y5 y6)) ∧ (∀ y0 y1 y2 y3, LeO (impl_lowest.j1 k y0 y1 y2 y3) (impl_lowest.j1 (k + 1) y0 y1 y2 y3)) ∧ (∀ y0 y1 y2 y3 y4 y5 y6, LeO (impl_lowest.l1 k y0 y1 y2 y3 y4 y5 y6) (impl_lowest.l1 (k + 1) y0 y1 y2 y3 y4 y5 y6)) ∧ (∀ y0 y1 y2 y3 y4 y5 y6 y7 y8 y9 y10, LeO (impl_lowest.l2 k y0 y1 y2 y3 y4 y5 y6 y7 y8 y9 y10) (impl_lowest.l2 (k + 1) y0 y1 y2 y3 y4 y5 y6 y7 y8 y9 y10))
  | 0 => ⟨fun _ _ _ _ _ _ _ r h => by simp [impl_lowest.l0] at h, fun _ _ _ _ r h => by simp [impl_lowest.j1] at h, fun _ _ _ _ _ _ _ r h => by simp [impl_lowest.l1] at h, fun _ _ _ _ _ _ _ _ _ _ _ r h => by simp [impl_lowest.l2] at h⟩
  | k + 1 => by
    obtain ⟨ih0, ih1, ih2, ih3⟩ := impl_lowest.mono_l k
    refine ⟨?_, ?_, ?_, ?_⟩
    · intro y0 y1 y2 y3 y4 y5 y6
      unfold impl_lowest.l0
      repeat' first
      | (with_reducible exact ih0 _ _ _ _ _ _ _)
      | (with_reducible exact ih1 _ _ _ _)
      | (with_reducible exact ih2 _ _ _ _ _ _ _)
      | (with_reducible exact ih3 _ _ _ _ _ _ _ _ _ _ _)
      | (with_reducible exact impl_MoveValid.mono _ _ _ _)
      | (with_reducible exact impl_gcd.mono _ _)
      | (with_reducible exact LeO.refl _)
      | (with_reducible exact LeO.none _)
      | (with_reducible refine LeO.ite ?_ ?_)
      | (with_reducible refine LeO.bind ?_ (fun _ => ?_))
      | exact ih0 _ _ _ _ _ _ _
      | exact ih1 _ _ _ _
      | exact ih2 _ _ _ _ _ _ _
      | exact ih3 _ _ _ _ _ _ _ _ _ _ _
      | exact impl_MoveValid.mono _ _ _ _
      | exact impl_gcd.mono _ _
      | exact LeO.none _
      | refine LeO.ite ?_ ?_
      | refine LeO.bind ?_ (fun _ => ?_)
    · intro y0 y1 y2 y3
      unfold impl_lowest.j1
      repeat' first
      | (with_reducible exact ih0 _ _ _ _ _ _ _)
      | (with_reducible exact ih1 _ _ _ _)
      | (with_reducible exact ih2 _ _ _ _ _ _ _)
      | (with_reducible exact ih3 _ _ _ _ _ _ _ _ _ _ _)
      | (with_reducible exact impl_MoveValid.mono _ _ _ _)
      | (with_reducible exact impl_gcd.mono _ _)
      | (with_reducible exact LeO.refl _)
      | (with_reducible exact LeO.none _)
      | (with_reducible refine LeO.ite ?_ ?_)
      | (with_reducible refine LeO.bind ?_ (fun _ => ?_))
      | exact ih0 _ _ _ _ _ _ _
      | exact ih1 _ _ _ _
      | exact ih2 _ _ _ _ _ _ _
      | exact ih3 _ _ _ _ _ _ _ _ _ _ _
      | exact impl_MoveValid.mono _ _ _ _
      | exact impl_gcd.mono _ _
      | exact LeO.none _
      | refine LeO.ite ?_ ?_
      | refine LeO.bind ?_ (fun _ => ?_)
    · intro y0 y1 y2 y3 y4 y5 y6
      unfold impl_lowest.l1
      repeat' first
      | (with_reducible exact ih0 _ _ _ _ _ _ _)
      | (with_reducible exact ih1 _ _ _ _)
      | (with_reducible exact ih2 _ _ _ _ _ _ _)
      | (with_reducible exact ih3 _ _ _ _ _ _ _ _ _ _ _)
      | (with_reducible exact impl_MoveValid.mono _ _ _ _)
      | (with_reducible exact impl_gcd.mono _ _)
      | (with_reducible exact LeO.refl _)
      | (with_reducible exact LeO.none _)
      | (with_reducible refine LeO.ite ?_ ?_)
      | (with_reducible refine LeO.bind ?_ (fun _ => ?_))
      | exact ih0 _ _ _ _ _ _ _
      | exact ih1 _ _ _ _
      | exact ih2 _ _ _ _ _ _ _
      | exact ih3 _ _ _ _ _ _ _ _ _ _ _
      | exact impl_MoveValid.mono _ _ _ _
      | exact impl_gcd.mono _ _
      | exact LeO.none _
      | refine LeO.ite ?_ ?_
      | refine LeO.bind ?_ (fun _ => ?_)
    · intro y0 y1 y2 y3 y4 y5 y6 y7 y8 y9 y10
      unfold impl_lowest.l2
      repeat' first
      | (with_reducible exact ih0 _ _ _ _ _ _ _)
      | (with_reducible exact ih1 _ _ _ _)
      | (with_reducible exact ih2 _ _ _ _ _ _ _)
      | (with_reducible exact ih3 _ _ _ _ _ _ _ _ _ _ _)
      | (with_reducible exact impl_MoveValid.mono _ _ _ _)
      | (with_reducible exact impl_gcd.mono _ _)
      | (with_reducible exact LeO.refl _)
      | (with_reducible exact LeO.none _)
      | (with_reducible refine LeO.ite ?_ ?_)
      | (with_reducible refine LeO.bind ?_ (fun _ => ?_))
      | exact ih0 _ _ _ _ _ _ _
      | exact ih1 _ _ _ _
      | exact ih2 _ _ _ _ _ _ _
      | exact ih3 _ _ _ _ _ _ _ _ _ _ _
      | exact impl_MoveValid.mono _ _ _ _
      | exact impl_gcd.mono _ _
      | exact LeO.none _
      | refine LeO.ite ?_ ?_
      | refine LeO.bind ?_ (fun _ => ?_)
theorem impl_lowest.mono : ∀ a0 a1 a2 k, LeO (impl_lowest.f k a0 a1 a2) (impl_lowest.f (k + 1) a0 a1 a2) := by
  intro a0 a1 a2 k
  obtain ⟨ih0, ih1, ih2, ih3⟩ := impl_lowest.mono_l k
  unfold impl_lowest.f
  repeat' first
      | (with_reducible exact ih0 _ _ _ _ _ _ _)
      | (with_reducible exact ih1 _ _ _ _)
      | (with_reducible exact ih2 _ _ _ _ _ _ _)
      | (with_reducible exact ih3 _ _ _ _ _ _ _ _ _ _ _)
      | (with_reducible exact impl_MoveValid.mono _ _ _ _)
      | (with_reducible exact impl_gcd.mono _ _)
      | (with_reducible exact LeO.refl _)
      | (with_reducible exact LeO.none _)
      | (with_reducible refine LeO.ite ?_ ?_)
      | (with_reducible refine LeO.bind ?_ (fun _ => ?_))
      | exact ih0 _ _ _ _ _ _ _
      | exact ih1 _ _ _ _
      | exact ih2 _ _ _ _ _ _ _
      | exact ih3 _ _ _ _ _ _ _ _ _ _ _
      | exact impl_MoveValid.mono _ _ _ _
      | exact impl_gcd.mono _ _
      | exact LeO.none _
      | refine LeO.ite ?_ ?_
      | refine LeO.bind ?_ (fun _ => ?_)
set_option maxHeartbeats 8000000 in
set_option maxRecDepth 100000 in
theorem impl_lowest.calls (k : Nat) (A0 : Option Addr) (c0 : Nat) (l0 : List Int) (A1_0 : Option Addr) (c1_0 : Nat) (l1_0 : List (List Int)) (a1_1 : Int) (r1 : List (List Int)) (r2 : Int) (r3 : Bool) (w : World) (hr0 : Kd.C (Kd.int .i64) w A0 l0.length l0) (hc0 : l0.length ≤ c0) (hr1_0 : Kd.C (Kd.slice 3 (Kd.int .i64)) w A1_0 l1_0.length l1_0) (hc1_0 : l1_0.length ≤ c1_0) (h : impl_lowest.f k l0 l1_0 a1_1 = some (r1, r2, r3)) :
    Calls Try.prog 58 #[.slice A0 l0.length c0, .agg #[.slice A1_0 l1_0.length c1_0, .int .i64 a1_1]] w fun e w' => ∃ v0_ : Value, e = .returned (.tuple #[.agg #[v0_, .int .i64 r2], .bool r3]) ∧ Kd.S (Kd.slice 3 (Kd.int .i64)) 23 w' w.heap.size (fun _ => True) v0_ r1 ∧ Below w.heap.size w w' := by
  have hu27 := Try.underlying27
  have HR0 := Aside0.mk hr0
  have HC0 := Aside0.mk hc0
  clear hr0 hc0
  have HR1_0 := Aside0.mk hr1_0
  have HC1_0 := Aside0.mk hc1_0
  clear hr1_0 hc1_0
  have HB := Aside0.mk (Below.refl w.heap.size w)
  have H : ((impl_gcd.f k (([a1_1] : List Int))).bind fun t232 => (impl_lowest.l0 k l0 t232 l1_0 (l1_0.length : Int) 0 l1_0 a1_1)) = some (r1, r2, r3) := h
  clear h
  obtain ⟨y229, hy229⟩ : ∃ y_ : List Int, y_ = (([a1_1] : List Int)) := ⟨_, rfl⟩
  replace H : ((impl_gcd.f k y229).bind fun t232 => (impl_lowest.l0 k l0 t232 l1_0 (l1_0.length : Int) 0 l1_0 a1_1)) = some (r1, r2, r3) := by first | (rw [hy229]; with_reducible exact H) | (have H2_ := (Option.bind_some _ _).symm.trans H; rw [hy229]; with_reducible exact H2_) | (have H2_ := (Option.bind_some _ _).symm.trans H; with_reducible exact H2_) | with_reducible exact H | (rw [hy229]; exact H) | exact H
  have Ny229 := Aside0.mk hy229
  clear hy229
  replace H := Option.bind_eq_some_iff.mp H
  obtain ⟨t232, A30, H⟩ := H
  replace H : (impl_lowest.l0 k l0 t232 l1_0 (l1_0.length : Int) 0 l1_0 a1_1) = some (r1, r2, r3) := H
  have A3 := Aside0.mk A30
  clear A30
  have H' := Aside0.mk H
  clear H
  go_enter Try.func58, Try.ntmps58
  go_wp2_with (first | ((with_reducible refine gate_dst (N := 3) rfl ?_); refine box_event ?hg (N := 3) ?hd (cs := #[.slice A1_0 l1_0.length c1_0, .int .i64 a1_1]) (t := 27) ?hr ?_; (case hd => rfl); (case hg => rfl); (case hr => first | (go_simp; done) | (go_simp; rfl)); intro gb227 hg w4 hbox hb; have n0_ := Aside0.mk (below_step (by repeat (first | (with_reducible first | exact HB.out | apply below_alloc | apply pw_below_drewN | apply below_drew1) | exact HB.out | exact Below.refl _ _)) hb); have n1_ := Aside0.mk (hbox); have n2_ := Aside0.mk ((by rw [hg]; exact (below_size (by repeat (first | (with_reducible first | exact HB.out | apply below_alloc | apply pw_below_drewN | apply below_drew1) | exact HB.out | exact Below.refl _ _))) : w.heap.size ≤ gb227)); have n3_ := Aside0.mk ((by rw [hg]; exact (below_size (by repeat (first | (with_reducible first | exact HB.out | apply below_alloc | apply pw_below_drewN | apply below_drew1) | exact HB.out | exact Below.refl _ _))) : w.heap.size ≤ gb227)); try clear HB; have HB := n0_; have BK227 := n1_; have GW227 := n2_; have GE227 := n3_; clear n0_ n1_ n2_ n3_; clear hb hbox hg) | ((with_reducible refine gate_dst (N := 4) rfl ?_); refine box_event ?hg (N := 4) ?hd (cs := #[.slice none 0 0, .int .i64 0]) (t := 27) ?hr ?_; (case hd => rfl); (case hg => rfl); (case hr => first | (go_simp; done) | (go_simp; rfl)); intro gb228 hg w5 hbox hb; have n0_ := Aside0.mk (blk_below (g := gb227) (o := .cells #[.slice A1_0 l1_0.length c1_0, .int .i64 a1_1] 27 (0, 0)) (by (with_reducible repeat (first | refine blk_drewN ?_ _ | refine blk_drew ?_ | refine blk_alloc ?_ _)); exact BK227.out) hb); have n1_ := Aside0.mk (below_step (by repeat (first | (with_reducible first | exact HB.out | apply below_alloc | apply pw_below_drewN | apply below_drew1 | refine below_set ?_ GE227.out) | exact HB.out)) hb); have n2_ := Aside0.mk (hbox); have n3_ := Aside0.mk ((by rw [hg]; exact (below_size (by repeat (first | (with_reducible first | exact HB.out | apply below_alloc | apply pw_below_drewN | apply below_drew1 | refine below_set ?_ GE227.out) | exact HB.out))) : w.heap.size ≤ gb228)); have n4_ := Aside0.mk ((by rw [hg]; exact (below_size (by repeat (first | (with_reducible first | exact HB.out | apply below_alloc | apply pw_below_drewN | apply below_drew1 | refine below_set ?_ GE227.out) | exact HB.out))) : w.heap.size ≤ gb228)); have n5_ := Aside0.mk ((by rw [hg]; exact Nat.ne_of_lt (blk_lt (g := gb227) (o := .cells #[.slice A1_0 l1_0.length c1_0, .int .i64 a1_1] 27 (0, 0)) (by (with_reducible repeat (first | refine blk_drewN ?_ _ | refine blk_drew ?_ | refine blk_alloc ?_ _)); exact BK227.out)) : gb227 ≠ gb228)); have n6_ := Aside0.mk ((by rw [hg]; exact Nat.ne_of_gt (blk_lt (g := gb227) (o := .cells #[.slice A1_0 l1_0.length c1_0, .int .i64 a1_1] 27 (0, 0)) (by (with_reducible repeat (first | refine blk_drewN ?_ _ | refine blk_drew ?_ | refine blk_alloc ?_ _)); exact BK227.out)) : gb228 ≠ gb227)); clear BK227; try clear HB; have BK227 := n0_; have HB := n1_; have BK228 := n2_; have GW228 := n3_; have GE228 := n4_; have NB227_228 := n5_; have NB228_227 := n6_; clear n0_ n1_ n2_ n3_ n4_ n5_ n6_; clear hb hbox hg; have hnb6 := NB227_228.out; have hnc6 := NB228_227.out; have hcz7_0 : w5.cell? ⟨gb227, 0, none⟩ = some (.slice A1_0 l1_0.length c1_0) := (blk_cell BK227.out 0).trans rfl; have hcz7_1 : w5.cell? ⟨gb227, 1, none⟩ = some (.int .i64 a1_1) := (blk_cell BK227.out 1).trans rfl; have hfz7_0 := blk_frozen BK227.out 0; have hfz7_1 := blk_frozen BK227.out 1) | ((with_reducible refine gate_dst (N := 17) rfl ?_); refine Kd.R_lit (Kd.int .i64) _ 3 ?hg (N := 17) ?hd (xs := ([a1_1] : List Int)) (inner := [.int .i64 a1_1]) (ok := fun _ => True) (okp := fun _ => True) ?hr ?hp (fun _ hk => hk) trivial (Below.refl _ _) (Nat.le_refl _) (by simp) ?_; (case hd => rfl); (case hg => rfl); (case hr => first | (go_simp; done) | (go_simp; rfl)); (case hp => exact (Reps.one (show Kd.M (Kd.int .i64) _ _ _ a1_1 [.int .i64 a1_1] from rfl) (Reps.none _ _))); intro v230 w8 ho9 hb hg_ hnew_; clear hg_ hnew_; (first | rw [← Ny229.out] at ho9 | (simp only [Int.reduceToNat] at ho9; rw [← Ny229.out] at ho9)); have n0_ := Aside0.mk (Kd.R_lower ho9 (below_size (by repeat (first | (with_reducible first | exact HB.out | apply below_alloc | apply pw_below_drewN | apply below_drew1 | refine below_set ?_ GE227.out | refine below_set ?_ GE228.out) | exact HB.out)))); have n1_ := Aside0.mk (blk_below (g := gb227) (o := .cells #[.slice A1_0 l1_0.length c1_0, .int .i64 a1_1] 27 (0, 0)) (by (with_reducible repeat (first | refine blk_drewN ?_ _ | refine blk_drew ?_ | refine blk_alloc ?_ _)); exact BK227.out) hb); have n2_ := Aside0.mk (blk_below (g := gb228) (o := .cells #[.slice none 0 0, .int .i64 0] 27 (0, 0)) (by (with_reducible repeat (first | refine blk_drewN ?_ _ | refine blk_drew ?_ | refine blk_alloc ?_ _)); exact BK228.out) hb); have n3_ := Aside0.mk (below_step (by repeat (first | (with_reducible first | exact HB.out | apply below_alloc | apply pw_below_drewN | apply below_drew1 | refine below_set ?_ GE227.out | refine below_set ?_ GE228.out) | exact HB.out)) hb); clear BK227; clear BK228; try clear HB; have HO231 := n0_; have BK227 := n1_; have BK228 := n2_; have HB := n3_; clear n0_ n1_ n2_ n3_; clear hb ho9; obtain ⟨Ao10, co10, eo10⟩ := Kd.R_slice HO231.out; subst eo10) | ((with_reducible refine gate_callee (f := 63) rfl ?_); refine goesL_ (some 18) rfl rfl Try.func63 (by kernel_rfl) rfl #[.slice Ao10 y229.length co10] rfl (by (try simp only [List.map_toArray, List.map_cons, List.map_nil]); first | done | rfl | (simp only [List.length_drop, List.length_take]; rfl)) ?_; (with_reducible refine (impl_gcd.calls k _ _ y229 t232 _ ?side1 ?side2 A3.out).mono ?_); (case side1 => repeat (first | exact (Kd.R_reads' HO231.out).2.2 | (with_reducible refine Kd.C_alloc ?_ _) | (with_reducible refine Kd.C_drewN ?_ _) | (with_reducible refine Kd.C_drew ?_))); (case side2 => exact (Kd.R_reads' HO231.out).2.1); rintro e w11 ⟨rfl, hb⟩; refine ⟨_, rfl, ?_⟩; have n0_ := Aside0.mk (Kd.R_below (by (with_reducible repeat (first | apply Kd.R_alloc | apply Kd.R_drewN | apply Kd.R_drew)); exact HO231.out) hb); have n1_ := Aside0.mk (blk_below (g := gb227) (o := .cells #[.slice A1_0 l1_0.length c1_0, .int .i64 a1_1] 27 (0, 0)) (by (with_reducible repeat (first | refine blk_drewN ?_ _ | refine blk_drew ?_ | refine blk_alloc ?_ _)); exact BK227.out) hb); have n2_ := Aside0.mk (blk_below (g := gb228) (o := .cells #[.slice none 0 0, .int .i64 0] 27 (0, 0)) (by (with_reducible repeat (first | refine blk_drewN ?_ _ | refine blk_drew ?_ | refine blk_alloc ?_ _)); exact BK228.out) hb); have n3_ := Aside0.mk (below_step (by repeat (first | (with_reducible first | exact HB.out | apply below_alloc | apply pw_below_drewN | apply below_drew1 | refine below_set ?_ GE227.out | refine below_set ?_ GE228.out) | exact HB.out)) hb); clear HO231; clear BK227; clear BK228; try clear HB; have HO231 := n0_; have BK227 := n1_; have BK228 := n2_; have HB := n3_; clear n0_ n1_ n2_ n3_; (try clear hb); (try clear hb2); (try clear hk); (try clear hi); have hcz12_0 : w11.cell? ⟨gb227, 0, none⟩ = some (.slice A1_0 l1_0.length c1_0) := (blk_cell BK227.out 0).trans rfl; have hcz12_1 : w11.cell? ⟨gb227, 1, none⟩ = some (.int .i64 a1_1) := (blk_cell BK227.out 1).trans rfl; have hfz12_0 := blk_frozen BK227.out 0; have hfz12_1 := blk_frozen BK227.out 1))
  go_loopg [6, 22] k (fun kq v6 v22 w' => ∃ (x6_1 : Int) (x22_1 : Int), v6 = .int .i64 x6_1 ∧ v22 = .int .i64 x22_1 ∧ Aside0 (impl_lowest.l0 kq l0 x6_1 l1_0 (l1_0.length : Int) x22_1 l1_0 a1_1 = some (r1, r2, r3)) ∧ Aside0 (kq ≤ k) ∧ Aside0 (w'.heap[gb227]? = some (.cells #[(.slice A1_0 l1_0.length c1_0), .int .i64 a1_1] 27 (0, 0))) ∧ Aside0 (w'.heap[gb228]? = some (.cells #[(.slice none 0 0), .int .i64 0] 27 (0, 0))) ∧ Aside0 (Below w.heap.size w w'))
  case atStart => exact ⟨(t232), (0), (by first | rfl | (simp; done) | (simp [*]; done)), (by first | rfl | (simp; done) | (simp [*]; done)), H', ⟨Nat.le_refl _⟩, ⟨by (with_reducible repeat (first | refine blk_drewN ?_ _ | refine blk_drew ?_ | refine blk_alloc ?_ _)); exact BK227.out⟩, ⟨by (with_reducible repeat (first | refine blk_drewN ?_ _ | refine blk_drew ?_ | refine blk_alloc ?_ _)); exact BK228.out⟩, ⟨by repeat (first | (with_reducible first | exact HB.out | apply below_alloc | apply pw_below_drewN | apply below_drew1 | refine below_set ?_ GE227.out | refine below_set ?_ GE228.out) | exact HB.out)⟩⟩
  case round =>
    clear H'
    try clear c1
    try clear p2
    try clear c5
    try clear c6
    try clear hcz12_0
    try clear hcz12_1
    try clear hcz7_0
    try clear hcz7_1
    try clear hfz12_0
    try clear hfz12_1
    try clear hfz7_0
    try clear hfz7_1
    obtain ⟨x6_1, x22_1, rfl, rfl, HA, HK1, BK227, BK228, HB⟩ := hrel
    cases gk with
    | zero => exact absurd HA.out (by simp [impl_lowest.l0])
    | succ k1 =>
      have H := HA.out
      clear HA
      simp only [impl_lowest.l0] at H
      by_cases c13 : x22_1 < (l1_0.length : Int)
      · rw [if_pos c13] at H
        have c13b0 : decide (x22_1 < (l1_0.length : Int)) = true := decide_eq_true c13
        clear c13
        by_cases c14 : 0 ≤ x22_1
        · rw [if_pos c14] at H
          have c14b0 : decide (0 ≤ x22_1) = true := decide_eq_true c14
          clear c14
          by_cases c15 : x22_1 < (l1_0.length : Int)
          · rw [if_pos c15] at H
            have c15b0 : decide (x22_1 < (l1_0.length : Int)) = true := decide_eq_true c15
            clear c15
            replace H := Option.bind_eq_some_iff.mp H
            obtain ⟨t234, A160, H⟩ := H
            replace H : (if t234.length < 17592186044416 then ((impl_gcd.f k1 (t234 ++ [x6_1])).bind fun t240 => (impl_lowest.l0 k1 l0 t240 l1_0 (l1_0.length : Int) (wrap64 (x22_1 + 1)) l1_0 a1_1)) else (none)) = some (r1, r2, r3) := H
            have A16 := Aside0.mk A160
            clear A160
            by_cases c17 : t234.length < 17592186044416
            · rw [if_pos c17] at H
              have LMc17 := Aside0.mk c17
              clear c17
              obtain ⟨y237, hy237⟩ : ∃ y_ : List Int, y_ = (t234 ++ [x6_1]) := ⟨_, rfl⟩
              replace H : ((impl_gcd.f k1 y237).bind fun t240 => (impl_lowest.l0 k1 l0 t240 l1_0 (l1_0.length : Int) (wrap64 (x22_1 + 1)) l1_0 a1_1)) = some (r1, r2, r3) := by first | (rw [hy237]; with_reducible exact H) | (have H2_ := (Option.bind_some _ _).symm.trans H; rw [hy237]; with_reducible exact H2_) | (have H2_ := (Option.bind_some _ _).symm.trans H; with_reducible exact H2_) | with_reducible exact H | (rw [hy237]; exact H) | exact H
              have Ny237 := Aside0.mk hy237
              clear hy237
              replace H := Option.bind_eq_some_iff.mp H
              obtain ⟨t240, A180, H⟩ := H
              replace H : (impl_lowest.l0 k1 l0 t240 l1_0 (l1_0.length : Int) (wrap64 (x22_1 + 1)) l1_0 a1_1) = some (r1, r2, r3) := H
              have A18 := Aside0.mk A180
              clear A180
              have H' := Aside0.mk H
              clear H
              have p233 : 0 ≤ (x22_1 : Int) := of_decide_eq_true (by first | (with_reducible assumption) | assumption)
              have q233 : x22_1 < (l1_0.length : Int) := of_decide_eq_true (by first | (with_reducible assumption) | assumption)
              obtain ⟨ad233, A233_0, c233_0, e233, hx233_0, hl233_0, hi233_0⟩ := at_L2 HR1_0.out x22_1 p233 q233
              cases e233
              replace hx233_0 := (HB.out.cell (World.block_lt_of_cell? w _ hx233_0)).trans hx233_0
              have HR233_0 := Aside0.mk hi233_0
              have HC233_0 := Aside0.mk hl233_0
              clear hi233_0 hl233_0
              replace p233 := eq_true p233
              replace q233 := eq_true q233
              go_wp2_with (first | ((with_reducible refine gate_callee (f := 66) rfl ?_); refine goesL_ (some 27) rfl rfl Try.func66 (by kernel_rfl) rfl #[.slice A233_0 (rd_L2 l1_0 x22_1).length c233_0] rfl (by (try simp only [List.map_toArray, List.map_cons, List.map_nil]); first | done | rfl | (simp only [List.length_drop, List.length_take]; rfl)) ?_; (with_reducible refine (slices_Clone_int_int.calls _ _ (rd_L2 l1_0 x22_1) t234 _ ?side1 ?side2 A16.out).mono ?_); (case side1 => repeat (first | exact (Kd.C_below HR233_0.out HB.out) | (with_reducible refine Kd.C_alloc ?_ _) | (with_reducible refine Kd.C_drewN ?_ _) | (with_reducible refine Kd.C_drew ?_))); (case side2 => exact HC233_0.out); rintro e w19 ⟨v235, rfl, ho0, hb⟩; refine ⟨_, rfl, ?_⟩; have n0_ := Aside0.mk (Kd.R_lower ho0 (below_size (by repeat (first | (with_reducible first | exact HB.out | apply below_alloc | apply pw_below_drewN | apply below_drew1 | refine below_set ?_ GE227.out | refine below_set ?_ GE228.out) | exact HB.out)))); have n1_ := Aside0.mk (blk_below (g := gb227) (o := .cells #[.slice (some ad233) l1_0.length c1_0, .int .i64 a1_1] 27 (0, 0)) (by (with_reducible repeat (first | refine blk_drewN ?_ _ | refine blk_drew ?_ | refine blk_alloc ?_ _)); exact BK227.out) hb); have n2_ := Aside0.mk (blk_below (g := gb228) (o := .cells #[.slice none 0 0, .int .i64 0] 27 (0, 0)) (by (with_reducible repeat (first | refine blk_drewN ?_ _ | refine blk_drew ?_ | refine blk_alloc ?_ _)); exact BK228.out) hb); have n3_ := Aside0.mk (below_step (by repeat (first | (with_reducible first | exact HB.out | apply below_alloc | apply pw_below_drewN | apply below_drew1 | refine below_set ?_ GE227.out | refine below_set ?_ GE228.out) | exact HB.out)) hb); clear BK227; clear BK228; try clear HB; have HO236 := n0_; have BK227 := n1_; have BK228 := n2_; have HB := n3_; clear n0_ n1_ n2_ n3_; (try clear hb); (try clear hb2); (try clear hk); (try clear hi); (try clear ho0)) | ((with_reducible refine gate_builtin (b := .append) (xs := #[.tmp 27, .tmp 29]) rfl ?_); at_builtin; refine Kd.R_append (Kd.int .i64) (w0 := w) w.heap.size rfl (.tmp 27) (.tmp 29) 23 3 (.int .i64 0) 8 rfl Try.underlying23 info3 rfl (by decide) (by omega) v235 t234 x6_1 [.int .i64 x6_1] (fun _ => True) (fun _ => False) rfl rfl ?aP (fun _ hk => hk.elim) ?aF ?aO ?aB ?aS ?aL ?_; (case aP => exact rfl); (case aB => exact (by repeat (first | (with_reducible first | exact HB.out | apply below_alloc | apply pw_below_drewN | apply below_drew1 | refine below_set ?_ GE227.out | refine below_set ?_ GE228.out) | exact HB.out))); (case aF => exact (fun _ _ => trivial)); (case aO => exact (by (with_reducible repeat (first | apply Kd.R_alloc | apply Kd.R_drewN | apply Kd.R_drew)); exact HO236.out)); (case aS => exact (below_size (by repeat (first | (with_reducible first | exact HB.out | apply below_alloc | apply pw_below_drewN | apply below_drew1 | refine below_set ?_ GE227.out | refine below_set ?_ GE228.out) | exact HB.out)))); (case aL => have := LMc17.out; omega); intro v238 w20 ho hb hg hat; rw [← Ny237.out] at ho; have n0_ := Aside0.mk (blk_grown (g := gb227) (o := .cells #[.slice (some ad233) l1_0.length c1_0, .int .i64 a1_1] 27 (0, 0)) (by (with_reducible repeat (first | refine blk_drewN ?_ _ | refine blk_drew ?_ | refine blk_alloc ?_ _)); exact BK227.out) hg (Kd.R_ne HO236.out BK227.out (by decide))); have n1_ := Aside0.mk (blk_grown (g := gb228) (o := .cells #[.slice none 0 0, .int .i64 0] 27 (0, 0)) (by (with_reducible repeat (first | refine blk_drewN ?_ _ | refine blk_drew ?_ | refine blk_alloc ?_ _)); exact BK228.out) hg (Kd.R_ne HO236.out BK228.out (by decide))); have n2_ := Aside0.mk (hb); have n3_ := Aside0.mk (ho); clear BK227; clear BK228; try clear HB; clear HO236; have BK227 := n0_; have BK228 := n1_; have HB := n2_; have HO239 := n3_; clear n0_ n1_ n2_ n3_; clear ho hb hg hat; obtain ⟨Ao21, co21, eo21⟩ := Kd.R_slice HO239.out; subst eo21) | ((with_reducible refine gate_callee (f := 63) rfl ?_); refine goesL_ (some 31) rfl rfl Try.func63 (by kernel_rfl) rfl #[.slice Ao21 y237.length co21] rfl (by (try simp only [List.map_toArray, List.map_cons, List.map_nil]); first | done | rfl | (simp only [List.length_drop, List.length_take]; rfl)) ?_; (with_reducible refine (impl_gcd.calls k1 _ _ y237 t240 _ ?side1 ?side2 A18.out).mono ?_); (case side1 => repeat (first | exact (Kd.R_reads' HO239.out).2.2 | (with_reducible refine Kd.C_alloc ?_ _) | (with_reducible refine Kd.C_drewN ?_ _) | (with_reducible refine Kd.C_drew ?_))); (case side2 => exact (Kd.R_reads' HO239.out).2.1); rintro e w22 ⟨rfl, hb⟩; refine ⟨_, rfl, ?_⟩; have n0_ := Aside0.mk (Kd.R_below (by (with_reducible repeat (first | apply Kd.R_alloc | apply Kd.R_drewN | apply Kd.R_drew)); exact HO239.out) hb); have n1_ := Aside0.mk (blk_below (g := gb227) (o := .cells #[.slice (some ad233) l1_0.length c1_0, .int .i64 a1_1] 27 (0, 0)) (by (with_reducible repeat (first | refine blk_drewN ?_ _ | refine blk_drew ?_ | refine blk_alloc ?_ _)); exact BK227.out) hb); have n2_ := Aside0.mk (blk_below (g := gb228) (o := .cells #[.slice none 0 0, .int .i64 0] 27 (0, 0)) (by (with_reducible repeat (first | refine blk_drewN ?_ _ | refine blk_drew ?_ | refine blk_alloc ?_ _)); exact BK228.out) hb); have n3_ := Aside0.mk (below_step (by repeat (first | (with_reducible first | exact HB.out | apply below_alloc | apply pw_below_drewN | apply below_drew1 | refine below_set ?_ GE227.out | refine below_set ?_ GE228.out) | exact HB.out)) hb); clear HO239; clear BK227; clear BK228; try clear HB; have HO239 := n0_; have BK227 := n1_; have BK228 := n2_; have HB := n3_; clear n0_ n1_ n2_ n3_; (try clear hb); (try clear hb2); (try clear hk); (try clear hi)))
              go_roundg k1
              case measure => have := HK1.out; omega
              case rel => exact ⟨(t240), (wrap64 (x22_1 + 1)), (by first | rfl | (simp; done) | (simp [*]; done)), (by first | rfl | (simp; done) | (simp [*]; done)), H', ⟨by have := HK1.out; omega⟩, ⟨by (with_reducible repeat (first | refine blk_drewN ?_ _ | refine blk_drew ?_ | refine blk_alloc ?_ _)); exact BK227.out⟩, ⟨by (with_reducible repeat (first | refine blk_drewN ?_ _ | refine blk_drew ?_ | refine blk_alloc ?_ _)); exact BK228.out⟩, ⟨by repeat (first | (with_reducible first | exact HB.out | apply below_alloc | apply pw_below_drewN | apply below_drew1 | refine below_set ?_ GE227.out | refine below_set ?_ GE228.out) | exact HB.out)⟩⟩
            rw [if_neg c17] at H
            exact absurd H (by simp)
          rw [if_neg c15] at H
          exact absurd H (by simp)
        rw [if_neg c14] at H
        exact absurd H (by simp)
      rw [if_neg c13] at H
      have c13b0 : decide (x22_1 < (l1_0.length : Int)) = false := decide_eq_false c13
      clear c13
      have HC23 := Aside0.mk H
      clear H
      have hnb24 := NB227_228.out
      have hnc24 := NB228_227.out
      have hcz25_0 : wr.cell? ⟨gb227, 0, none⟩ = some (.slice A1_0 l1_0.length c1_0) := (blk_cell BK227.out 0).trans rfl
      have hcz25_1 : wr.cell? ⟨gb227, 1, none⟩ = some (.int .i64 a1_1) := (blk_cell BK227.out 1).trans rfl
      have hfz25_0 := blk_frozen BK227.out 0
      have hfz25_1 := blk_frozen BK227.out 1
      go_upto_if 35 with (fail)
      go_cut [6] (fun v6 wc => ∃ (kq : Nat) (x6_22 : Int), v6 = .int .i64 x6_22 ∧ Aside0 (impl_lowest.j1 kq l0 x6_22 l1_0 a1_1 = some (r1, r2, r3)) ∧ Aside0 (kq ≤ k1) ∧ Aside0 (wc.heap[gb227]? = some (.cells #[(.slice A1_0 l1_0.length c1_0), .int .i64 a1_1] 27 (0, 0))) ∧ Aside0 (wc.heap[gb228]? = some (.cells #[(.slice none 0 0), .int .i64 0] 27 (0, 0))) ∧ Aside0 (Below w.heap.size w wc))
      case first =>
        have H := HC23.out
        clear HC23
        by_cases c26 : a1_1 < 0
        · rw [if_pos c26] at H
          have c26b0 : decide (a1_1 < 0) = true := decide_eq_true c26
          clear c26
          (first | rw [c26b0] | (simp only [i64_w, i32_w]; rw [c26b0]) | skip)
          have H' := Aside0.mk H
          clear H
          go_wp2
          go_meet
          case rel => exact ⟨_, (wrap64 (-x6_1)), (by first | rfl | (simp; done) | (simp [*]; done)), H', ⟨by have := HK1.out; first | omega | exact Nat.le_refl _⟩, ⟨by (with_reducible repeat (first | refine blk_drewN ?_ _ | refine blk_drew ?_ | refine blk_alloc ?_ _)); exact BK227.out⟩, ⟨by (with_reducible repeat (first | refine blk_drewN ?_ _ | refine blk_drew ?_ | refine blk_alloc ?_ _)); exact BK228.out⟩, ⟨by repeat (first | (with_reducible first | exact HB.out | apply below_alloc | apply pw_below_drewN | apply below_drew1 | refine below_set ?_ GE227.out | refine below_set ?_ GE228.out) | exact HB.out)⟩⟩
        rw [if_neg c26] at H
        have c26b0 : decide (a1_1 < 0) = false := decide_eq_false c26
        clear c26
        (first | rw [c26b0] | (simp only [i64_w, i32_w]; rw [c26b0]) | skip)
        have H' := Aside0.mk H
        clear H
        go_wp2
        go_meet
        case rel => exact ⟨_, (x6_1), (by first | rfl | (simp; done) | (simp [*]; done)), H', ⟨by have := HK1.out; first | omega | exact Nat.le_refl _⟩, ⟨by (with_reducible repeat (first | refine blk_drewN ?_ _ | refine blk_drew ?_ | refine blk_alloc ?_ _)); exact BK227.out⟩, ⟨by (with_reducible repeat (first | refine blk_drewN ?_ _ | refine blk_drew ?_ | refine blk_alloc ?_ _)); exact BK228.out⟩, ⟨by repeat (first | (with_reducible first | exact HB.out | apply below_alloc | apply pw_below_drewN | apply below_drew1 | refine below_set ?_ GE227.out | refine below_set ?_ GE228.out) | exact HB.out)⟩⟩
      case rest =>
        clear HC23
        try clear c1
        try clear c2
        try clear p2
        try clear q2
        try clear hx2
        try clear c5
        try clear c6
        try clear p6
        try clear c13
        try clear c13b0
        try clear c14
        try clear c14b0
        try clear c15
        try clear c15b0
        try clear c17
        try clear c23
        try clear p23
        try clear q23
        try clear hx23
        try clear c24
        try clear c26
        try clear c26b0
        try clear hcz12_0
        try clear hcz12_1
        try clear hcz25_0
        try clear hcz25_1
        try clear hcz7_0
        try clear hcz7_1
        try clear hfz12_0
        try clear hfz12_1
        try clear hfz25_0
        try clear hfz25_1
        try clear hfz7_0
        try clear hfz7_1
        try clear hx233_0
        try clear p2
        try clear p233
        try clear q233
        obtain ⟨kq, x6_22, rfl, HA, HJ22, BK227, BK228, HB⟩ := hcut
        cases kq with
        | zero => exact absurd HA.out (by simp [impl_lowest.j1])
        | succ kj22 =>
          have H := HA.out
          clear HA
          simp only [impl_lowest.j1] at H
          by_cases c27 : x6_22 = 0
          · rw [if_pos c27] at H
            exact absurd H (by simp)
          rw [if_neg c27] at H
          have c27b0 : (x6_22 == 0) = false := beq_eq_false_iff_ne.mpr c27
          have c27b1 : (x6_22 != 0) = true := bne_iff_ne.mpr c27
          have H' := Aside0.mk H
          clear H
          have hnb28 := NB227_228.out
          have hnc28 := NB228_227.out
          have hcz29_0 : wc.cell? ⟨gb227, 0, none⟩ = some (.slice A1_0 l1_0.length c1_0) := (blk_cell BK227.out 0).trans rfl
          have hcz29_1 : wc.cell? ⟨gb227, 1, none⟩ = some (.int .i64 a1_1) := (blk_cell BK227.out 1).trans rfl
          have hfz29_0 := blk_frozen BK227.out 0
          have hfz29_1 := blk_frozen BK227.out 1
          go_wp2_with (first | ((with_reducible refine gate_dst (N := 9) rfl ?_); refine box_event ?hg (N := 9) ?hd (cs := #[.slice none 0 0, .int .i64 0]) (t := 27) ?hr ?_; (case hd => rfl); (case hg => rfl); (case hr => first | (go_simp; done) | (go_simp; rfl)); intro gb241 hg w30 hbox hb; have n0_ := Aside0.mk (blk_below (g := gb227) (o := .cells #[.slice A1_0 l1_0.length c1_0, .int .i64 a1_1] 27 (0, 0)) (by (with_reducible repeat (first | refine blk_drewN ?_ _ | refine blk_drew ?_ | refine blk_alloc ?_ _)); exact BK227.out) hb); have n1_ := Aside0.mk (blk_below (g := gb228) (o := .cells #[.slice none 0 0, .int .i64 0] 27 (0, 0)) (by (with_reducible repeat (first | refine blk_drewN ?_ _ | refine blk_drew ?_ | refine blk_alloc ?_ _)); exact BK228.out) hb); have n2_ := Aside0.mk (below_step (by repeat (first | (with_reducible first | exact HB.out | apply below_alloc | apply pw_below_drewN | apply below_drew1 | refine below_set ?_ GE227.out | refine below_set ?_ GE228.out) | exact HB.out)) hb); have n3_ := Aside0.mk (hbox); have n4_ := Aside0.mk ((by rw [hg]; exact (below_size (by repeat (first | (with_reducible first | exact HB.out | apply below_alloc | apply pw_below_drewN | apply below_drew1 | refine below_set ?_ GE227.out | refine below_set ?_ GE228.out) | exact HB.out))) : w.heap.size ≤ gb241)); have n5_ := Aside0.mk ((by rw [hg]; exact (below_size (by repeat (first | (with_reducible first | exact HB.out | apply below_alloc | apply pw_below_drewN | apply below_drew1 | refine below_set ?_ GE227.out | refine below_set ?_ GE228.out) | exact HB.out))) : w.heap.size ≤ gb241)); have n6_ := Aside0.mk ((by rw [hg]; exact Nat.ne_of_lt (blk_lt (g := gb227) (o := .cells #[.slice A1_0 l1_0.length c1_0, .int .i64 a1_1] 27 (0, 0)) (by (with_reducible repeat (first | refine blk_drewN ?_ _ | refine blk_drew ?_ | refine blk_alloc ?_ _)); exact BK227.out)) : gb227 ≠ gb241)); have n7_ := Aside0.mk ((by rw [hg]; exact Nat.ne_of_gt (blk_lt (g := gb227) (o := .cells #[.slice A1_0 l1_0.length c1_0, .int .i64 a1_1] 27 (0, 0)) (by (with_reducible repeat (first | refine blk_drewN ?_ _ | refine blk_drew ?_ | refine blk_alloc ?_ _)); exact BK227.out)) : gb241 ≠ gb227)); have n8_ := Aside0.mk ((by rw [hg]; exact Nat.ne_of_lt (blk_lt (g := gb228) (o := .cells #[.slice none 0 0, .int .i64 0] 27 (0, 0)) (by (with_reducible repeat (first | refine blk_drewN ?_ _ | refine blk_drew ?_ | refine blk_alloc ?_ _)); exact BK228.out)) : gb228 ≠ gb241)); have n9_ := Aside0.mk ((by rw [hg]; exact Nat.ne_of_gt (blk_lt (g := gb228) (o := .cells #[.slice none 0 0, .int .i64 0] 27 (0, 0)) (by (with_reducible repeat (first | refine blk_drewN ?_ _ | refine blk_drew ?_ | refine blk_alloc ?_ _)); exact BK228.out)) : gb241 ≠ gb228)); clear BK227; clear BK228; try clear HB; have BK227 := n0_; have BK228 := n1_; have HB := n2_; have BK241 := n3_; have GW241 := n4_; have GE241 := n5_; have NB227_241 := n6_; have NB241_227 := n7_; have NB228_241 := n8_; have NB241_228 := n9_; clear n0_ n1_ n2_ n3_ n4_ n5_ n6_ n7_ n8_ n9_; clear hb hbox hg; have hnb31 := NB241_227.out; have hnc31 := NB227_241.out; have hnb32 := NB241_228.out; have hnc32 := NB228_241.out; have hcz33_0 : w30.cell? ⟨gb241, 0, none⟩ = some (.slice none 0 0) := (blk_cell BK241.out 0).trans rfl; have hcz33_1 : w30.cell? ⟨gb241, 1, none⟩ = some (.int .i64 0) := (blk_cell BK241.out 1).trans rfl; have hfz33_0 := blk_frozen BK241.out 0; have hfz33_1 := blk_frozen BK241.out 1; have hcz34_0 : w30.cell? ⟨gb227, 0, none⟩ = some (.slice A1_0 l1_0.length c1_0) := (blk_cell BK227.out 0).trans rfl; have hcz34_1 : w30.cell? ⟨gb227, 1, none⟩ = some (.int .i64 a1_1) := (blk_cell BK227.out 1).trans rfl; have hfz34_0 := blk_frozen BK227.out 0; have hfz34_1 := blk_frozen BK227.out 1))
          go_loopg [46] kj22 (fun kq v46 w' => ∃ (x46_3 : Int) (x242000_3 : List (List Int)) (u242000 : Value), v46 = .int .i64 x46_3 ∧ Aside0 (impl_lowest.l1 kq l0 x6_22 l1_0 (l1_0.length : Int) x46_3 x242000_3 (wrap64 (Int.tdiv a1_1 x6_22)) = some (r1, r2, r3)) ∧ Aside0 (kq ≤ kj22) ∧ Aside0 (Kd.S (Kd.slice 3 (Kd.int .i64)) 23 w' w.heap.size (fun _ => True) u242000 x242000_3) ∧ Aside0 (w'.heap[gb227]? = some (.cells #[(.slice A1_0 l1_0.length c1_0), .int .i64 a1_1] 27 (0, 0))) ∧ Aside0 (w'.heap[gb228]? = some (.cells #[(.slice none 0 0), .int .i64 0] 27 (0, 0))) ∧ Aside0 (w'.heap[gb241]? = some (.cells #[u242000, .int .i64 (wrap64 (Int.tdiv a1_1 x6_22))] 27 (0, 0))) ∧ Aside0 (Below w.heap.size w w'))
          case atStart => exact ⟨(0), (([] : List (List Int))), (.slice none 0 0), (by first | rfl | (simp; done) | (simp [*]; done)), H', ⟨Nat.le_refl _⟩, ⟨by first | exact Kd.S_nil _ _ _ _ _ | exact Kd.N_nil _ _ _ _ _ | exact Kd.V_nil _ _ _ _ _ | exact Kd.Q_nil _ _ _ _ _ | exact Kd.R_nil _ _ _ _ _⟩, ⟨by (with_reducible repeat (first | refine blk_drewN ?_ _ | refine blk_drew ?_ | refine blk_alloc ?_ _)); refine blk_far ?_ NB227_241.out _; (with_reducible repeat (first | refine blk_drewN ?_ _ | refine blk_drew ?_ | refine blk_alloc ?_ _)); refine blk_far ?_ NB227_241.out _; (with_reducible repeat (first | refine blk_drewN ?_ _ | refine blk_drew ?_ | refine blk_alloc ?_ _)); exact BK227.out⟩, ⟨by (with_reducible repeat (first | refine blk_drewN ?_ _ | refine blk_drew ?_ | refine blk_alloc ?_ _)); refine blk_far ?_ NB228_241.out _; (with_reducible repeat (first | refine blk_drewN ?_ _ | refine blk_drew ?_ | refine blk_alloc ?_ _)); refine blk_far ?_ NB228_241.out _; (with_reducible repeat (first | refine blk_drewN ?_ _ | refine blk_drew ?_ | refine blk_alloc ?_ _)); exact BK228.out⟩, ⟨by (with_reducible repeat (first | refine blk_drewN ?_ _ | refine blk_drew ?_ | refine blk_alloc ?_ _)); refine blk_put (cs := #[.slice none 0 0, .int .i64 0]) ?_ 1 _ rfl; (with_reducible repeat (first | refine blk_drewN ?_ _ | refine blk_drew ?_ | refine blk_alloc ?_ _)); refine blk_put (cs := #[.slice none 0 0, .int .i64 0]) ?_ 0 _ rfl; (with_reducible repeat (first | refine blk_drewN ?_ _ | refine blk_drew ?_ | refine blk_alloc ?_ _)); exact BK241.out⟩, ⟨by repeat (first | (with_reducible first | exact HB.out | apply below_alloc | apply pw_below_drewN | apply below_drew1 | refine below_set ?_ GE227.out | refine below_set ?_ GE228.out | refine below_set ?_ GE241.out) | exact HB.out)⟩⟩
          case round =>
            clear H'
            try clear c1
            try clear c2
            try clear p2
            try clear q2
            try clear hx2
            try clear c3
            try clear c5
            try clear c6
            try clear p6
            try clear c13
            try clear c13b0
            try clear c14
            try clear c14b0
            try clear c15
            try clear c15b0
            try clear c17
            try clear c23
            try clear p23
            try clear q23
            try clear hx23
            try clear c24
            try clear c26
            try clear c26b0
            try clear c27
            try clear c27b0
            try clear c27b1
            try clear c28
            try clear c31
            try clear c32
            try clear hcz12_0
            try clear hcz12_1
            try clear hcz25_0
            try clear hcz25_1
            try clear hcz29_0
            try clear hcz29_1
            try clear hcz33_0
            try clear hcz33_1
            try clear hcz34_0
            try clear hcz34_1
            try clear hcz7_0
            try clear hcz7_1
            try clear hfz12_0
            try clear hfz12_1
            try clear hfz25_0
            try clear hfz25_1
            try clear hfz29_0
            try clear hfz29_1
            try clear hfz33_0
            try clear hfz33_1
            try clear hfz34_0
            try clear hfz34_1
            try clear hfz7_0
            try clear hfz7_1
            try clear hx233_0
            try clear p2
            try clear p23
            try clear p233
            try clear p6
            try clear q2
            try clear q23
            try clear q233
            obtain ⟨x46_3, x242000_3, u242000, rfl, HA, HK3, HO_242000, BK227, BK228, BK241, HB⟩ := hrel
            cases gk with
            | zero => exact absurd HA.out (by simp [impl_lowest.l1])
            | succ k3 =>
              have H := HA.out
              clear HA
              simp only [impl_lowest.l1] at H
              by_cases c35 : x46_3 < (l1_0.length : Int)
              · rw [if_pos c35] at H
                have c35b0 : decide (x46_3 < (l1_0.length : Int)) = true := decide_eq_true c35
                clear c35
                by_cases c36 : 0 ≤ x46_3
                · rw [if_pos c36] at H
                  have c36b0 : decide (0 ≤ x46_3) = true := decide_eq_true c36
                  clear c36
                  by_cases c37 : x46_3 < (l1_0.length : Int)
                  · rw [if_pos c37] at H
                    have c37b0 : decide (x46_3 < (l1_0.length : Int)) = true := decide_eq_true c37
                    clear c37
                    obtain ⟨y244, hy244⟩ : ∃ y_ : List Int, y_ = (([] : List Int)) := ⟨_, rfl⟩
                    replace H : (impl_lowest.l2 k3 l0 x6_22 y244 l1_0 (l1_0.length : Int) x46_3 (rd_L2 l1_0 x46_3) ((rd_L2 l1_0 x46_3).length : Int) 0 x242000_3 (wrap64 (Int.tdiv a1_1 x6_22))) = some (r1, r2, r3) := by first | (rw [hy244]; with_reducible exact H) | (have H2_ := (Option.bind_some _ _).symm.trans H; rw [hy244]; with_reducible exact H2_) | (have H2_ := (Option.bind_some _ _).symm.trans H; with_reducible exact H2_) | with_reducible exact H | (rw [hy244]; exact H) | exact H
                    have Ny244 := Aside0.mk hy244
                    clear hy244
                    have H' := Aside0.mk H
                    clear H
                    have p243 : 0 ≤ (x46_3 : Int) := of_decide_eq_true (by first | (with_reducible assumption) | assumption)
                    have q243 : x46_3 < (l1_0.length : Int) := of_decide_eq_true (by first | (with_reducible assumption) | assumption)
                    obtain ⟨ad243, A243_0, c243_0, e243, hx243_0, hl243_0, hi243_0⟩ := at_L2 HR1_0.out x46_3 p243 q243
                    cases e243
                    replace hx243_0 := (HB.out.cell (World.block_lt_of_cell? w _ hx243_0)).trans hx243_0
                    have HR243_0 := Aside0.mk hi243_0
                    have HC243_0 := Aside0.mk hl243_0
                    clear hi243_0 hl243_0
                    replace p243 := eq_true p243
                    replace q243 := eq_true q243
                    go_wp2_with (first | ((with_reducible refine gate_dst (N := 50) rfl ?_); refine Kd.R_lit (Kd.int .i64) _ 3 ?hg (N := 50) ?hd (xs := ([] : List Int)) (inner := []) (ok := fun _ => True) (okp := fun _ => True) ?hr ?hp (fun _ hk => hk) trivial (Below.refl _ _) (Nat.le_refl _) (by simp) ?_; (case hd => rfl); (case hg => rfl); (case hr => first | (go_simp; done) | (go_simp; rfl)); (case hp => exact (Reps.none _ _)); intro v245 w38 ho39 hb hg_ hnew_; clear hg_ hnew_; (first | rw [← Ny244.out] at ho39 | (simp only [Int.reduceToNat] at ho39; rw [← Ny244.out] at ho39)); have n0_ := Aside0.mk (Kd.S_elder' (by (with_reducible repeat (first | apply Kd.S_alloc | apply Kd.S_drewN | apply Kd.S_drew)); exact HO_242000.out) (Kd.R_base ho39) hb); have n1_ := Aside0.mk (Kd.R_lower ho39 (below_size (by repeat (first | (with_reducible first | exact HB.out | apply below_alloc | apply pw_below_drewN | apply below_drew1 | refine below_set ?_ GE227.out | refine below_set ?_ GE228.out | refine below_set ?_ GE241.out) | exact HB.out)))); have n2_ := Aside0.mk (blk_below (g := gb227) (o := .cells #[.slice (some ad243) l1_0.length c1_0, .int .i64 a1_1] 27 (0, 0)) (by (with_reducible repeat (first | refine blk_drewN ?_ _ | refine blk_drew ?_ | refine blk_alloc ?_ _)); exact BK227.out) hb); have n3_ := Aside0.mk (blk_below (g := gb228) (o := .cells #[.slice none 0 0, .int .i64 0] 27 (0, 0)) (by (with_reducible repeat (first | refine blk_drewN ?_ _ | refine blk_drew ?_ | refine blk_alloc ?_ _)); exact BK228.out) hb); have n4_ := Aside0.mk (blk_below (g := gb241) (o := .cells #[u242000, .int .i64 (wrap64 (Int.tdiv a1_1 x6_22))] 27 (0, 0)) (by (with_reducible repeat (first | refine blk_drewN ?_ _ | refine blk_drew ?_ | refine blk_alloc ?_ _)); exact BK241.out) hb); have n5_ := Aside0.mk (below_step (by repeat (first | (with_reducible first | exact HB.out | apply below_alloc | apply pw_below_drewN | apply below_drew1 | refine below_set ?_ GE227.out | refine below_set ?_ GE228.out | refine below_set ?_ GE241.out) | exact HB.out)) hb); clear HO_242000; clear BK227; clear BK228; clear BK241; try clear HB; have HO_242000 := n0_; have HO246 := n1_; have BK227 := n2_; have BK228 := n3_; have BK241 := n4_; have HB := n5_; clear n0_ n1_ n2_ n3_ n4_ n5_; clear hb ho39))
                    go_loopg [12, 53] k3 (fun kq v12 v53 w' => ∃ (x12_4 : List Int) (x53_4 : Int), v53 = .int .i64 x53_4 ∧ Aside0 (impl_lowest.l2 kq l0 x6_22 x12_4 l1_0 (l1_0.length : Int) x46_3 (rd_L2 l1_0 x46_3) ((rd_L2 l1_0 x46_3).length : Int) x53_4 x242000_3 (wrap64 (Int.tdiv a1_1 x6_22)) = some (r1, r2, r3)) ∧ Aside0 (kq ≤ k3) ∧ Aside0 (Kd.R (Kd.int .i64) 3 w' w.heap.size (fun _ => True) v12 x12_4) ∧ Aside0 (Kd.S (Kd.slice 3 (Kd.int .i64)) 23 w' w.heap.size (fun k_ => some k_ ≠ (v12 : Value).ownBlock) u242000 x242000_3) ∧ Aside0 (w'.heap[gb227]? = some (.cells #[(.slice (some ad243) l1_0.length c1_0), .int .i64 a1_1] 27 (0, 0))) ∧ Aside0 (w'.heap[gb228]? = some (.cells #[(.slice none 0 0), .int .i64 0] 27 (0, 0))) ∧ Aside0 (w'.heap[gb241]? = some (.cells #[u242000, .int .i64 (wrap64 (Int.tdiv a1_1 x6_22))] 27 (0, 0))) ∧ Aside0 (Below w.heap.size w w'))
                    case atStart => exact ⟨(y244), (0), (by first | rfl | (simp; done) | (simp [*]; done)), H', ⟨Nat.le_refl _⟩, ⟨by (with_reducible repeat (first | apply Kd.R_alloc | apply Kd.R_drewN | apply Kd.R_drew)); exact HO246.out⟩, ⟨by (with_reducible repeat (first | apply Kd.S_alloc | apply Kd.S_drewN | apply Kd.S_drew)); exact Kd.S_mono HO_242000.out (fun _ hk => hk.2)⟩, ⟨by (with_reducible repeat (first | refine blk_drewN ?_ _ | refine blk_drew ?_ | refine blk_alloc ?_ _)); exact BK227.out⟩, ⟨by (with_reducible repeat (first | refine blk_drewN ?_ _ | refine blk_drew ?_ | refine blk_alloc ?_ _)); exact BK228.out⟩, ⟨by (with_reducible repeat (first | refine blk_drewN ?_ _ | refine blk_drew ?_ | refine blk_alloc ?_ _)); exact BK241.out⟩, ⟨by repeat (first | (with_reducible first | exact HB.out | apply below_alloc | apply pw_below_drewN | apply below_drew1 | refine below_set ?_ GE227.out | refine below_set ?_ GE228.out | refine below_set ?_ GE241.out) | exact HB.out)⟩⟩
                    case round =>
                      clear H'
                      try clear c1
                      try clear c2
                      try clear p2
                      try clear q2
                      try clear hx2
                      try clear c3
                      try clear c5
                      try clear c6
                      try clear p6
                      try clear c13
                      try clear c13b0
                      try clear c14
                      try clear c14b0
                      try clear c15
                      try clear c15b0
                      try clear c17
                      try clear c23
                      try clear p23
                      try clear q23
                      try clear hx23
                      try clear c24
                      try clear p24
                      try clear q24
                      try clear hx24
                      try clear c26
                      try clear c26b0
                      try clear c27
                      try clear c27b0
                      try clear c27b1
                      try clear c28
                      try clear c31
                      try clear c32
                      try clear c35
                      try clear c35b0
                      try clear c36
                      try clear c36b0
                      try clear c37
                      try clear c37b0
                      try clear hcz12_0
                      try clear hcz12_1
                      try clear hcz25_0
                      try clear hcz25_1
                      try clear hcz29_0
                      try clear hcz29_1
                      try clear hcz33_0
                      try clear hcz33_1
                      try clear hcz34_0
                      try clear hcz34_1
                      try clear hcz7_0
                      try clear hcz7_1
                      try clear hfz12_0
                      try clear hfz12_1
                      try clear hfz25_0
                      try clear hfz25_1
                      try clear hfz29_0
                      try clear hfz29_1
                      try clear hfz33_0
                      try clear hfz33_1
                      try clear hfz34_0
                      try clear hfz34_1
                      try clear hfz7_0
                      try clear hfz7_1
                      try clear hx233_0
                      try clear hx243_0
                      try clear p2
                      try clear p23
                      try clear p233
                      try clear p243
                      try clear p6
                      try clear q2
                      try clear q23
                      try clear q233
                      try clear q243
                      obtain ⟨x12_4, x53_4, rfl, HA, HK4, HO_12, HO_242000, BK227, BK228, BK241, HB⟩ := hrel
                      cases gk with
                      | zero => exact absurd HA.out (by simp [impl_lowest.l2])
                      | succ k4 =>
                        have H := HA.out
                        clear HA
                        simp only [impl_lowest.l2] at H
                        by_cases c40 : x53_4 < ((rd_L2 l1_0 x46_3).length : Int)
                        · rw [if_pos c40] at H
                          have c40b0 : decide (x53_4 < ((rd_L2 l1_0 x46_3).length : Int)) = true := decide_eq_true c40
                          clear c40
                          by_cases c41 : 0 ≤ x53_4
                          · rw [if_pos c41] at H
                            have c41b0 : decide (0 ≤ x53_4) = true := decide_eq_true c41
                            clear c41
                            by_cases c42 : x53_4 < ((rd_L2 l1_0 x46_3).length : Int)
                            · rw [if_pos c42] at H
                              have c42b0 : decide (x53_4 < ((rd_L2 l1_0 x46_3).length : Int)) = true := decide_eq_true c42
                              clear c42
                              by_cases c43 : x6_22 = 0
                              · rw [if_pos c43] at H
                                exact absurd H (by simp)
                              rw [if_neg c43] at H
                              have c43b0 : (x6_22 == 0) = false := beq_eq_false_iff_ne.mpr c43
                              have c43b1 : (x6_22 != 0) = true := bne_iff_ne.mpr c43
                              by_cases c44 : x12_4.length < 17592186044416
                              · rw [if_pos c44] at H
                                have LMc44 := Aside0.mk c44
                                clear c44
                                obtain ⟨y248, hy248⟩ : ∃ y_ : List Int, y_ = (x12_4 ++ [wrap64 (Int.tdiv (rd (rd_L2 l1_0 x46_3) x53_4) x6_22)]) := ⟨_, rfl⟩
                                replace H : (impl_lowest.l2 k4 l0 x6_22 y248 l1_0 (l1_0.length : Int) x46_3 (rd_L2 l1_0 x46_3) ((rd_L2 l1_0 x46_3).length : Int) (wrap64 (x53_4 + 1)) x242000_3 (wrap64 (Int.tdiv a1_1 x6_22))) = some (r1, r2, r3) := by first | (rw [hy248]; with_reducible exact H) | (have H2_ := (Option.bind_some _ _).symm.trans H; rw [hy248]; with_reducible exact H2_) | (have H2_ := (Option.bind_some _ _).symm.trans H; with_reducible exact H2_) | with_reducible exact H | (rw [hy248]; exact H) | exact H
                                have Ny248 := Aside0.mk hy248
                                clear hy248
                                have H' := Aside0.mk H
                                clear H
                                have p247 : 0 ≤ (x53_4 : Int) := of_decide_eq_true (by first | (with_reducible assumption) | assumption)
                                have q247 : x53_4 < ((rd_L2 l1_0 x46_3).length : Int) := of_decide_eq_true (by first | (with_reducible assumption) | assumption)
                                obtain ⟨ad247, e247, hx247_0⟩ := Kd.at_int HR243_0.out x53_4 p247 q247
                                cases e247
                                replace hx247_0 := (HB.out.cell (World.block_lt_of_cell? w _ hx247_0)).trans hx247_0
                                replace p247 := eq_true p247
                                replace q247 := eq_true q247
                                go_wp2_with (first | ((with_reducible refine gate_builtin (b := .append) (xs := #[.tmp 57, .tmp 61]) rfl ?_); at_builtin; refine Kd.R_append (Kd.int .i64) (w0 := w) w.heap.size rfl (.tmp 57) (.tmp 61) 23 3 (.int .i64 0) 8 rfl Try.underlying23 info3 rfl (by decide) (by omega) u12 x12_4 (wrap64 (Int.tdiv (rd (rd_L2 l1_0 x46_3) x53_4) x6_22)) [.int .i64 (wrap64 (Int.tdiv (rd (rd_L2 l1_0 x46_3) x53_4) x6_22))] (fun _ => True) (fun _ => False) rfl rfl ?aP (fun _ hk => hk.elim) ?aF ?aO ?aB ?aS ?aL ?_; (case aP => exact rfl); (case aB => exact (by repeat (first | (with_reducible first | exact HB.out | apply below_alloc | apply pw_below_drewN | apply below_drew1 | refine below_set ?_ GE227.out | refine below_set ?_ GE228.out | refine below_set ?_ GE241.out) | exact HB.out))); (case aF => exact (fun _ _ => trivial)); (case aO => exact (by (with_reducible repeat (first | apply Kd.R_alloc | apply Kd.R_drewN | apply Kd.R_drew)); exact HO_12.out)); (case aS => exact (below_size (by repeat (first | (with_reducible first | exact HB.out | apply below_alloc | apply pw_below_drewN | apply below_drew1 | refine below_set ?_ GE227.out | refine below_set ?_ GE228.out | refine below_set ?_ GE241.out) | exact HB.out)))); (case aL => have := LMc44.out; omega); intro v249 w45 ho hb hg hat; rw [← Ny248.out] at ho; have n0_ := Aside0.mk (Kd.S_after (ok := (fun _ => True)) (by (with_reducible repeat (first | apply Kd.S_alloc | apply Kd.S_drewN | apply Kd.S_drew)); exact Kd.S_mono HO_242000.out (fun _ hk => ⟨trivial, hk⟩)) hg hat); have n1_ := Aside0.mk (blk_grown (g := gb227) (o := .cells #[.slice (some ad243) l1_0.length c1_0, .int .i64 a1_1] 27 (0, 0)) (by (with_reducible repeat (first | refine blk_drewN ?_ _ | refine blk_drew ?_ | refine blk_alloc ?_ _)); exact BK227.out) hg (Kd.R_ne HO_12.out BK227.out (by decide))); have n2_ := Aside0.mk (blk_grown (g := gb228) (o := .cells #[.slice none 0 0, .int .i64 0] 27 (0, 0)) (by (with_reducible repeat (first | refine blk_drewN ?_ _ | refine blk_drew ?_ | refine blk_alloc ?_ _)); exact BK228.out) hg (Kd.R_ne HO_12.out BK228.out (by decide))); have n3_ := Aside0.mk (blk_grown (g := gb241) (o := .cells #[u242000, .int .i64 (wrap64 (Int.tdiv a1_1 x6_22))] 27 (0, 0)) (by (with_reducible repeat (first | refine blk_drewN ?_ _ | refine blk_drew ?_ | refine blk_alloc ?_ _)); exact BK241.out) hg (Kd.R_ne HO_12.out BK241.out (by decide))); have n4_ := Aside0.mk (hb); have n5_ := Aside0.mk (ho); clear HO_242000; clear BK227; clear BK228; clear BK241; try clear HB; clear HO_12; have HO_242000 := n0_; have BK227 := n1_; have BK228 := n2_; have BK241 := n3_; have HB := n4_; have HO250 := n5_; clear n0_ n1_ n2_ n3_ n4_ n5_; clear ho hb hg hat))
                                go_roundg k4
                                case measure => have := HK1.out; have := HJ22.out; have := HK3.out; have := HK4.out; omega
                                case rel => exact ⟨(y248), (wrap64 (x53_4 + 1)), (by first | rfl | (simp; done) | (simp [*]; done)), H', ⟨by have := HK1.out; have := HJ22.out; have := HK3.out; have := HK4.out; omega⟩, ⟨by (with_reducible repeat (first | apply Kd.R_alloc | apply Kd.R_drewN | apply Kd.R_drew)); exact HO250.out⟩, ⟨by (with_reducible repeat (first | apply Kd.S_alloc | apply Kd.S_drewN | apply Kd.S_drew)); exact Kd.S_mono HO_242000.out (fun _ hk => hk.2)⟩, ⟨by (with_reducible repeat (first | refine blk_drewN ?_ _ | refine blk_drew ?_ | refine blk_alloc ?_ _)); exact BK227.out⟩, ⟨by (with_reducible repeat (first | refine blk_drewN ?_ _ | refine blk_drew ?_ | refine blk_alloc ?_ _)); exact BK228.out⟩, ⟨by (with_reducible repeat (first | refine blk_drewN ?_ _ | refine blk_drew ?_ | refine blk_alloc ?_ _)); exact BK241.out⟩, ⟨by repeat (first | (with_reducible first | exact HB.out | apply below_alloc | apply pw_below_drewN | apply below_drew1 | refine below_set ?_ GE227.out | refine below_set ?_ GE228.out | refine below_set ?_ GE241.out) | exact HB.out)⟩⟩
                              rw [if_neg c44] at H
                              exact absurd H (by simp)
                            rw [if_neg c42] at H
                            exact absurd H (by simp)
                          rw [if_neg c41] at H
                          exact absurd H (by simp)
                        rw [if_neg c40] at H
                        have c40b0 : decide (x53_4 < ((rd_L2 l1_0 x46_3).length : Int)) = false := decide_eq_false c40
                        clear c40
                        by_cases c46 : x242000_3.length < 5864062014805
                        · rw [if_pos c46] at H
                          have LMc46 := Aside0.mk c46
                          clear c46
                          obtain ⟨y251, hy251⟩ : ∃ y_ : List (List Int), y_ = (x242000_3 ++ [x12_4]) := ⟨_, rfl⟩
                          replace H : (impl_lowest.l1 k4 l0 x6_22 l1_0 (l1_0.length : Int) (wrap64 (x46_3 + 1)) y251 (wrap64 (Int.tdiv a1_1 x6_22))) = some (r1, r2, r3) := by first | (rw [hy251]; with_reducible exact H) | (have H2_ := (Option.bind_some _ _).symm.trans H; rw [hy251]; with_reducible exact H2_) | (have H2_ := (Option.bind_some _ _).symm.trans H; with_reducible exact H2_) | with_reducible exact H | (rw [hy251]; exact H) | exact H
                          have Ny251 := Aside0.mk hy251
                          clear hy251
                          have H' := Aside0.mk H
                          clear H
                          have hnb47 := NB241_227.out
                          have hnc47 := NB227_241.out
                          have hnb48 := NB241_228.out
                          have hnc48 := NB228_241.out
                          have hcz49_0 : wr.cell? ⟨gb241, 0, none⟩ = some (u242000) := (blk_cell BK241.out 0).trans rfl
                          have hcz49_1 : wr.cell? ⟨gb241, 1, none⟩ = some (.int .i64 (wrap64 (Int.tdiv a1_1 x6_22))) := (blk_cell BK241.out 1).trans rfl
                          have hfz49_0 := blk_frozen BK241.out 0
                          have hfz49_1 := blk_frozen BK241.out 1
                          obtain ⟨Ao51, co51, eo51⟩ := Kd.R_slice HO_12.out
                          subst eo51
                          go_wp2_with (first | ((with_reducible refine gate_builtin (b := .append) (xs := #[.tmp 65, .tmp 67]) rfl ?_); at_builtin; refine Kd.S_append (Kd.slice 3 (Kd.int .i64)) (w0 := w) w.heap.size rfl (.tmp 65) (.tmp 67) 25 23 (.slice none 0 0) 24 rfl Try.underlying25 info23 rfl (by decide) (by omega) u242000 x242000_3 x12_4 [.slice Ao51 x12_4.length co51] (fun _ => True) (fun k_ => some k_ = (.slice Ao51 x12_4.length co51 : Value).ownBlock) rfl rfl ?aP (fun k_ hk_ => ((Kd.R_mono (ok' := fun k_ => ((fun _ => True)) k_ ∧ some k_ ≠ (u242000 : Value).ownBlock) (Kd.R_apart' (HO_12.out) (Kd.S_typed HO_242000.out) (by decide)) (fun k_ hk => ⟨trivial, hk.2⟩))).1 k_ hk_.symm) ?aF ?aO ?aB ?aS ?aL ?_; (case aP => exact Kd.M_row (Kd.R_mono (Kd.R_tight rfl (Kd.R_mono (ok' := fun k_ => ((fun _ => True)) k_ ∧ some k_ ≠ (u242000 : Value).ownBlock) (Kd.R_apart' (HO_12.out) (Kd.S_typed HO_242000.out) (by decide)) (fun k_ hk => ⟨trivial, hk.2⟩))) (fun _ h_ => h_))); (case aB => exact (by repeat (first | (with_reducible first | exact HB.out | apply below_alloc | apply pw_below_drewN | apply below_drew1 | refine below_set ?_ GE227.out | refine below_set ?_ GE228.out | refine below_set ?_ GE241.out) | exact HB.out))); (case aF => exact (fun _ _ => trivial)); (case aO => exact (by (with_reducible repeat (first | apply Kd.S_alloc | apply Kd.S_drewN | apply Kd.S_drew)); exact Kd.S_mono HO_242000.out (fun k_ hk => ⟨trivial, fun e_ => hk e_⟩))); (case aS => exact (below_size (by repeat (first | (with_reducible first | exact HB.out | apply below_alloc | apply pw_below_drewN | apply below_drew1 | refine below_set ?_ GE227.out | refine below_set ?_ GE228.out | refine below_set ?_ GE241.out) | exact HB.out)))); (case aL => have := LMc46.out; omega); intro v252 w50 ho hb hg hat; rw [← Ny251.out] at ho; have n0_ := Aside0.mk (blk_grown (g := gb227) (o := .cells #[.slice (some ad243) l1_0.length c1_0, .int .i64 a1_1] 27 (0, 0)) (by (with_reducible repeat (first | refine blk_drewN ?_ _ | refine blk_drew ?_ | refine blk_alloc ?_ _)); exact BK227.out) hg (Kd.S_ne HO_242000.out BK227.out (by decide))); have n1_ := Aside0.mk (blk_grown (g := gb228) (o := .cells #[.slice none 0 0, .int .i64 0] 27 (0, 0)) (by (with_reducible repeat (first | refine blk_drewN ?_ _ | refine blk_drew ?_ | refine blk_alloc ?_ _)); exact BK228.out) hg (Kd.S_ne HO_242000.out BK228.out (by decide))); have n2_ := Aside0.mk (blk_grown (g := gb241) (o := .cells #[u242000, .int .i64 (wrap64 (Int.tdiv a1_1 x6_22))] 27 (0, 0)) (by (with_reducible repeat (first | refine blk_drewN ?_ _ | refine blk_drew ?_ | refine blk_alloc ?_ _)); exact BK241.out) hg (Kd.S_ne HO_242000.out BK241.out (by decide))); have n3_ := Aside0.mk (hb); have n4_ := Aside0.mk (ho); clear BK227; clear BK228; clear BK241; try clear HB; clear HO_242000; clear HO_12; have BK227 := n0_; have BK228 := n1_; have BK241 := n2_; have HB := n3_; have HO253 := n4_; clear n0_ n1_ n2_ n3_ n4_; clear ho hb hg hat; obtain ⟨Ao52, co52, eo52⟩ := Kd.S_slice HO253.out; subst eo52; have hcz53_0 : w50.cell? ⟨gb241, 0, none⟩ = some (u242000) := (blk_cell BK241.out 0).trans rfl; have hcz53_1 : w50.cell? ⟨gb241, 1, none⟩ = some (.int .i64 (wrap64 (Int.tdiv a1_1 x6_22))) := (blk_cell BK241.out 1).trans rfl; have hfz53_0 := blk_frozen BK241.out 0; have hfz53_1 := blk_frozen BK241.out 1))
                          go_roundg k4
                          case measure => have := HK1.out; have := HJ22.out; have := HK3.out; have := HK4.out; omega
                          case rel => exact ⟨(wrap64 (x46_3 + 1)), (y251), (.slice Ao52 y251.length co52), (by first | rfl | (simp; done) | (simp [*]; done)), H', ⟨by have := HK1.out; have := HJ22.out; have := HK3.out; have := HK4.out; omega⟩, ⟨by (with_reducible repeat (first | apply Kd.S_alloc | apply Kd.S_drewN | apply Kd.S_drew)); exact Kd.S_mono (Kd.S_far (p := ⟨gb241, 0, none⟩) (Kd.S_types HO253.out BK241.out (by decide)) (fun _ hk => hk.2) (.slice Ao52 y251.length co52)) (fun _ hk => trivial)⟩, ⟨by (with_reducible repeat (first | refine blk_drewN ?_ _ | refine blk_drew ?_ | refine blk_alloc ?_ _)); refine blk_far ?_ NB227_241.out _; (with_reducible repeat (first | refine blk_drewN ?_ _ | refine blk_drew ?_ | refine blk_alloc ?_ _)); exact BK227.out⟩, ⟨by (with_reducible repeat (first | refine blk_drewN ?_ _ | refine blk_drew ?_ | refine blk_alloc ?_ _)); refine blk_far ?_ NB228_241.out _; (with_reducible repeat (first | refine blk_drewN ?_ _ | refine blk_drew ?_ | refine blk_alloc ?_ _)); exact BK228.out⟩, ⟨by (with_reducible repeat (first | refine blk_drewN ?_ _ | refine blk_drew ?_ | refine blk_alloc ?_ _)); refine blk_put (cs := #[u242000, .int .i64 (wrap64 (Int.tdiv a1_1 x6_22))]) ?_ 0 _ rfl; (with_reducible repeat (first | refine blk_drewN ?_ _ | refine blk_drew ?_ | refine blk_alloc ?_ _)); exact BK241.out⟩, ⟨by repeat (first | (with_reducible first | exact HB.out | apply below_alloc | apply pw_below_drewN | apply below_drew1 | refine below_set ?_ GE227.out | refine below_set ?_ GE228.out | refine below_set ?_ GE241.out) | exact HB.out)⟩⟩
                        rw [if_neg c46] at H
                        exact absurd H (by simp)
                  rw [if_neg c37] at H
                  exact absurd H (by simp)
                rw [if_neg c36] at H
                exact absurd H (by simp)
              rw [if_neg c35] at H
              have c35b0 : decide (x46_3 < (l1_0.length : Int)) = false := decide_eq_false c35
              clear c35
              replace H := Option.bind_eq_some_iff.mp H
              obtain ⟨t242, A540, H⟩ := H
              replace H : (if t242 = true then (some (x242000_3, (wrap64 (Int.tdiv a1_1 x6_22)), true)) else (some (([] : List (List Int)), 0, false))) = some (r1, r2, r3) := H
              have A54 := Aside0.mk A540
              clear A540
              by_cases c55 : t242 = true
              · subst c55
                have H1 : (some (x242000_3, (wrap64 (Int.tdiv a1_1 x6_22)), true)) = some (r1, r2, r3) := by rw [if_pos rfl] at H; exact H
                clear H
                have H := H1
                clear H1
                simp only [Option.some.injEq, Prod.mk.injEq] at H
                obtain ⟨rfl, rfl, rfl⟩ := H
                have hnb56 := NB241_227.out
                have hnc56 := NB227_241.out
                have hnb57 := NB241_228.out
                have hnc57 := NB228_241.out
                have hcz58_0 : wr.cell? ⟨gb241, 0, none⟩ = some (u242000) := (blk_cell BK241.out 0).trans rfl
                have hcz58_1 : wr.cell? ⟨gb241, 1, none⟩ = some (.int .i64 (wrap64 (Int.tdiv a1_1 x6_22))) := (blk_cell BK241.out 1).trans rfl
                have hfz58_0 := blk_frozen BK241.out 0
                have hfz58_1 := blk_frozen BK241.out 1
                obtain ⟨Ao59, co59, eo59⟩ := Kd.S_slice HO_242000.out
                subst eo59
                go_wp2_with (first | ((with_reducible refine gate_callee (f := 21) rfl ?_); refine goesL_ (some 73) rfl rfl Try.func21 (by kernel_rfl) rfl #[.slice A0 l0.length c0, .agg #[.slice Ao59 x242000_3.length co59, .int .i64 (wrap64 (Int.tdiv a1_1 x6_22))]] rfl (by (try simp only [List.map_toArray, List.map_cons, List.map_nil]); first | done | rfl | (simp only [List.length_drop, List.length_take]; rfl)) ?_; (with_reducible refine (impl_MoveValid.calls k3 _ _ l0 _ _ x242000_3 (wrap64 (Int.tdiv a1_1 x6_22)) true _ ?side1 ?side2 ?side3 ?side4 A54.out).mono ?_); (case side1 => repeat (first | exact (Kd.C_below HR0.out HB.out) | (with_reducible refine Kd.C_alloc ?_ _) | (with_reducible refine Kd.C_drewN ?_ _) | (with_reducible refine Kd.C_drew ?_))); (case side2 => exact HC0.out); (case side3 => repeat (first | exact (Kd.S_reads' HO_242000.out).2.2 | (with_reducible refine Kd.C_alloc ?_ _) | (with_reducible refine Kd.C_drewN ?_ _) | (with_reducible refine Kd.C_drew ?_))); (case side4 => exact (Kd.S_reads' HO_242000.out).2.1); rintro e w60 ⟨rfl, hb⟩; refine ⟨_, rfl, ?_⟩; have n0_ := Aside0.mk (Kd.S_below (by (with_reducible repeat (first | apply Kd.S_alloc | apply Kd.S_drewN | apply Kd.S_drew)); exact HO_242000.out) hb); have n1_ := Aside0.mk (blk_below (g := gb227) (o := .cells #[.slice A1_0 l1_0.length c1_0, .int .i64 a1_1] 27 (0, 0)) (by (with_reducible repeat (first | refine blk_drewN ?_ _ | refine blk_drew ?_ | refine blk_alloc ?_ _)); exact BK227.out) hb); have n2_ := Aside0.mk (blk_below (g := gb228) (o := .cells #[.slice none 0 0, .int .i64 0] 27 (0, 0)) (by (with_reducible repeat (first | refine blk_drewN ?_ _ | refine blk_drew ?_ | refine blk_alloc ?_ _)); exact BK228.out) hb); have n3_ := Aside0.mk (blk_below (g := gb241) (o := .cells #[.slice Ao59 x242000_3.length co59, .int .i64 (wrap64 (Int.tdiv a1_1 x6_22))] 27 (0, 0)) (by (with_reducible repeat (first | refine blk_drewN ?_ _ | refine blk_drew ?_ | refine blk_alloc ?_ _)); exact BK241.out) hb); have n4_ := Aside0.mk (below_step (by repeat (first | (with_reducible first | exact HB.out | apply below_alloc | apply pw_below_drewN | apply below_drew1 | refine below_set ?_ GE227.out | refine below_set ?_ GE228.out | refine below_set ?_ GE241.out) | exact HB.out)) hb); clear HO_242000; clear BK227; clear BK228; clear BK241; try clear HB; have HO_242000 := n0_; have BK227 := n1_; have BK228 := n2_; have BK241 := n3_; have HB := n4_; clear n0_ n1_ n2_ n3_ n4_; (try clear hb); (try clear hb2); (try clear hk); (try clear hi); have hcz61_0 : w60.cell? ⟨gb241, 0, none⟩ = some (.slice Ao59 x242000_3.length co59) := (blk_cell BK241.out 0).trans rfl; have hcz61_1 : w60.cell? ⟨gb241, 1, none⟩ = some (.int .i64 (wrap64 (Int.tdiv a1_1 x6_22))) := (blk_cell BK241.out 1).trans rfl; have hfz61_0 := blk_frozen BK241.out 0; have hfz61_1 := blk_frozen BK241.out 1; have hnb62 := NB228_227.out; have hnc62 := NB227_228.out; have hcz63_0 : w60.cell? ⟨gb228, 0, none⟩ = some (.slice none 0 0) := (blk_cell BK228.out 0).trans rfl; have hcz63_1 : w60.cell? ⟨gb228, 1, none⟩ = some (.int .i64 0) := (blk_cell BK228.out 1).trans rfl; have hfz63_0 := blk_frozen BK228.out 0; have hfz63_1 := blk_frozen BK228.out 1))
                refine bodyPost_ret (results_ct rfl _ _ gb228 27 #[.slice Ao59 x242000_3.length co59, .int .i64 (wrap64 (Int.tdiv a1_1 x6_22))] (0, 0) _ rfl (by (with_reducible repeat (first | refine blk_drewN ?_ _ | refine blk_drew ?_ | refine blk_alloc ?_ _)); refine blk_put (cs := #[.slice Ao59 x242000_3.length co59, .int .i64 0]) ?_ 1 _ rfl; (with_reducible repeat (first | refine blk_drewN ?_ _ | refine blk_drew ?_ | refine blk_alloc ?_ _)); refine blk_put (cs := #[.slice none 0 0, .int .i64 0]) ?_ 0 _ rfl; (with_reducible repeat (first | refine blk_drewN ?_ _ | refine blk_drew ?_ | refine blk_alloc ?_ _)); exact BK228.out) Try.underlying27 rfl (by kernel_rfl)) rfl ?_
                exact ⟨_, by first | rfl | (simp [errW_none, errW_some] <;> rfl) | (simp [*, errW_none, errW_some] <;> rfl), by (with_reducible repeat (first | apply Kd.S_alloc | apply Kd.S_drewN | apply Kd.S_drew)); exact Kd.S_mono (Kd.S_far (p := ⟨gb228, 1, none⟩) (Kd.S_far (p := ⟨gb228, 0, none⟩) (Kd.S_types HO_242000.out BK228.out (by decide)) (fun _ hk => hk.2) (.slice Ao59 x242000_3.length co59)) (fun _ hk => hk.2) (.int .i64 (wrap64 (Int.tdiv a1_1 x6_22)))) (fun _ hk => trivial), by repeat (first | (with_reducible first | exact HB.out | apply below_alloc | apply pw_below_drewN | apply below_drew1 | refine below_set ?_ GE227.out | refine below_set ?_ GE228.out | refine below_set ?_ GE241.out) | exact HB.out)⟩
              replace c55 := Bool.eq_false_iff.mpr c55
              subst c55
              have H1 : (some (([] : List (List Int)), 0, false)) = some (r1, r2, r3) := by rw [if_neg (show ¬ (false = true) by decide)] at H; exact H
              clear H
              have H := H1
              clear H1
              simp only [Option.some.injEq, Prod.mk.injEq] at H
              obtain ⟨rfl, rfl, rfl⟩ := H
              have hnb64 := NB241_227.out
              have hnc64 := NB227_241.out
              have hnb65 := NB241_228.out
              have hnc65 := NB228_241.out
              have hcz66_0 : wr.cell? ⟨gb241, 0, none⟩ = some (u242000) := (blk_cell BK241.out 0).trans rfl
              have hcz66_1 : wr.cell? ⟨gb241, 1, none⟩ = some (.int .i64 (wrap64 (Int.tdiv a1_1 x6_22))) := (blk_cell BK241.out 1).trans rfl
              have hfz66_0 := blk_frozen BK241.out 0
              have hfz66_1 := blk_frozen BK241.out 1
              obtain ⟨Ao67, co67, eo67⟩ := Kd.S_slice HO_242000.out
              subst eo67
              go_wp2_with (first | ((with_reducible refine gate_callee (f := 21) rfl ?_); refine goesL_ (some 73) rfl rfl Try.func21 (by kernel_rfl) rfl #[.slice A0 l0.length c0, .agg #[.slice Ao67 x242000_3.length co67, .int .i64 (wrap64 (Int.tdiv a1_1 x6_22))]] rfl (by (try simp only [List.map_toArray, List.map_cons, List.map_nil]); first | done | rfl | (simp only [List.length_drop, List.length_take]; rfl)) ?_; (with_reducible refine (impl_MoveValid.calls k3 _ _ l0 _ _ x242000_3 (wrap64 (Int.tdiv a1_1 x6_22)) false _ ?side1 ?side2 ?side3 ?side4 A54.out).mono ?_); (case side1 => repeat (first | exact (Kd.C_below HR0.out HB.out) | (with_reducible refine Kd.C_alloc ?_ _) | (with_reducible refine Kd.C_drewN ?_ _) | (with_reducible refine Kd.C_drew ?_))); (case side2 => exact HC0.out); (case side3 => repeat (first | exact (Kd.S_reads' HO_242000.out).2.2 | (with_reducible refine Kd.C_alloc ?_ _) | (with_reducible refine Kd.C_drewN ?_ _) | (with_reducible refine Kd.C_drew ?_))); (case side4 => exact (Kd.S_reads' HO_242000.out).2.1); rintro e w68 ⟨rfl, hb⟩; refine ⟨_, rfl, ?_⟩; have n0_ := Aside0.mk (Kd.S_below (by (with_reducible repeat (first | apply Kd.S_alloc | apply Kd.S_drewN | apply Kd.S_drew)); exact HO_242000.out) hb); have n1_ := Aside0.mk (blk_below (g := gb227) (o := .cells #[.slice A1_0 l1_0.length c1_0, .int .i64 a1_1] 27 (0, 0)) (by (with_reducible repeat (first | refine blk_drewN ?_ _ | refine blk_drew ?_ | refine blk_alloc ?_ _)); exact BK227.out) hb); have n2_ := Aside0.mk (blk_below (g := gb228) (o := .cells #[.slice none 0 0, .int .i64 0] 27 (0, 0)) (by (with_reducible repeat (first | refine blk_drewN ?_ _ | refine blk_drew ?_ | refine blk_alloc ?_ _)); exact BK228.out) hb); have n3_ := Aside0.mk (blk_below (g := gb241) (o := .cells #[.slice Ao67 x242000_3.length co67, .int .i64 (wrap64 (Int.tdiv a1_1 x6_22))] 27 (0, 0)) (by (with_reducible repeat (first | refine blk_drewN ?_ _ | refine blk_drew ?_ | refine blk_alloc ?_ _)); exact BK241.out) hb); have n4_ := Aside0.mk (below_step (by repeat (first | (with_reducible first | exact HB.out | apply below_alloc | apply pw_below_drewN | apply below_drew1 | refine below_set ?_ GE227.out | refine below_set ?_ GE228.out | refine below_set ?_ GE241.out) | exact HB.out)) hb); clear HO_242000; clear BK227; clear BK228; clear BK241; try clear HB; have HO_242000 := n0_; have BK227 := n1_; have BK228 := n2_; have BK241 := n3_; have HB := n4_; clear n0_ n1_ n2_ n3_ n4_; (try clear hb); (try clear hb2); (try clear hk); (try clear hi); have hnb69 := NB228_227.out; have hnc69 := NB227_228.out; have hcz70_0 : w68.cell? ⟨gb228, 0, none⟩ = some (.slice none 0 0) := (blk_cell BK228.out 0).trans rfl; have hcz70_1 : w68.cell? ⟨gb228, 1, none⟩ = some (.int .i64 0) := (blk_cell BK228.out 1).trans rfl; have hfz70_0 := blk_frozen BK228.out 0; have hfz70_1 := blk_frozen BK228.out 1))
              refine bodyPost_ret (results_ct rfl _ _ gb228 27 #[.slice none 0 0, .int .i64 0] (0, 0) _ rfl (by (with_reducible repeat (first | refine blk_drewN ?_ _ | refine blk_drew ?_ | refine blk_alloc ?_ _)); refine blk_put (cs := #[.slice none 0 0, .int .i64 0]) ?_ 1 _ rfl; (with_reducible repeat (first | refine blk_drewN ?_ _ | refine blk_drew ?_ | refine blk_alloc ?_ _)); refine blk_put (cs := #[.slice none 0 0, .int .i64 0]) ?_ 0 _ rfl; (with_reducible repeat (first | refine blk_drewN ?_ _ | refine blk_drew ?_ | refine blk_alloc ?_ _)); exact BK228.out) Try.underlying27 rfl (by kernel_rfl)) rfl ?_
              exact ⟨_, by first | rfl | (simp [errW_none, errW_some] <;> rfl) | (simp [*, errW_none, errW_some] <;> rfl), by first | exact Kd.S_nil _ _ _ _ _ | exact Kd.N_nil _ _ _ _ _ | exact Kd.V_nil _ _ _ _ _ | exact Kd.Q_nil _ _ _ _ _ | exact Kd.R_nil _ _ _ _ _, by repeat (first | (with_reducible first | exact HB.out | apply below_alloc | apply pw_below_drewN | apply below_drew1 | refine below_set ?_ GE227.out | refine below_set ?_ GE228.out | refine below_set ?_ GE241.out) | exact HB.out)⟩

end Go.Proofs.Ytnbeeogmaamgdaa.PFnStay
