-- Written by a program of this session (wip/print2.py): the functions that the law reaches, plain, and the walks.
import Derived.Test.YtnbeeogmaamgdaaPFnMovex0
import Derived.Test.YtnbeeogmaamgdaaPFnMovex2
import Derived.Test.YtnbeeogmaamgdaaPFnMovex3
import Derived.Test.YtnbeeogmaamgdaaPFnMovex4
namespace Go.Proofs.Ytnbeeogmaamgdaa.PFnMove
open Go.RowKit Go.Proofs.YtnbeeogmaamgdaaW.PrintWords Go.Proofs.YtnbeeogmaamgdaaW.PrintLast Go.Proofs.YtnbeeogmaamgdaaW.PrintMore
attribute [local go_sem] max2_int min2_int max_two min_two max_three min_three max_four min_four   -- for this text's walks alone
set_option linter.unusedVariables false
set_option linter.unusedSimpArgs false

/-! ### impl_MoveMul: function 18 -/
mutual
def impl_MoveMul.j0 : Nat → List Int → Bool → List (List Int) → Int → List (List Int) → Int → Option ((List (List Int)) × Int × Bool)
  | 0, _, _, _, _, _, _ => none
  | k + 1, x0, x25, x188000, x188001, x189000, x189001 => if x25 = true then (some (([] : List (List Int)), 0, false)) else (impl_MoveMul.l0 k x0 x188000 (x188000.length : Int) 0 x189000 x189001 ([] : List (List Int)) (wrap64 (x188001 * x189001)))
def impl_MoveMul.l0 : Nat → List Int → List (List Int) → Int → Int → List (List Int) → Int → List (List Int) → Int → Option ((List (List Int)) × Int × Bool)
  | 0, _, _, _, _, _, _, _, _ => none
  | k + 1, x0, x34, x35, x36, x189000, x189001, x193000, x193001 => if x36 < x35 then (if 0 ≤ x36 then (if x36 < (x34.length : Int) then (impl_MoveMul.l1 k x0 (rd_L1 x34 x36) (([] : List Int)) x34 x35 x36 (x0.length : Int) 0 x189000 x189001 x193000 x193001) else (none)) else (none)) else ((impl_lowest.f k x0 x193000 x193001).bind fun bt193 => (some (bt193.1, bt193.2.1, bt193.2.2)))
def impl_MoveMul.l1 : Nat → List Int → List Int → List Int → List (List Int) → Int → Int → Int → Int → List (List Int) → Int → List (List Int) → Int → Option ((List (List Int)) × Int × Bool)
  | 0, _, _, _, _, _, _, _, _, _, _, _, _ => none
  | k + 1, x0, x10, x11, x34, x35, x36, x42, x43, x189000, x189001, x193000, x193001 => if x43 < x42 then ((impl_column.f k x189000 x189001 x43).bind fun t205 => (impl_MoveMul.l2 k x0 x10 x11 0 x34 x35 x36 x42 x43 t205 (t205.length : Int) 0 x189000 x189001 x193000 x193001)) else (if x193000.length < 5864062014805 then (impl_MoveMul.l0 k x0 x34 x35 (wrap64 (x36 + 1)) x189000 x189001 (x193000 ++ [x11]) x193001) else (none))
def impl_MoveMul.l2 : Nat → List Int → List Int → List Int → Int → List (List Int) → Int → Int → Int → Int → List Int → Int → Int → List (List Int) → Int → List (List Int) → Int → Option ((List (List Int)) × Int × Bool)
  | 0, _, _, _, _, _, _, _, _, _, _, _, _, _, _, _, _ => none
  | k + 1, x0, x10, x11, x13, x34, x35, x36, x42, x43, x48, x49, x50, x189000, x189001, x193000, x193001 => if x50 < x49 then (if 0 ≤ x50 then (if x50 < (x48.length : Int) then (if x50 < (x10.length : Int) then (impl_MoveMul.l2 k x0 x10 x11 (wrap64 (x13 + (wrap64 ((rd x10 x50) * (rd x48 x50))))) x34 x35 x36 x42 x43 x48 x49 (wrap64 (x50 + 1)) x189000 x189001 x193000 x193001) else (none)) else (none)) else (none)) else (if x11.length < 17592186044416 then (impl_MoveMul.l1 k x0 x10 (x11 ++ [x13]) x34 x35 x36 x42 (wrap64 (x43 + 1)) x189000 x189001 x193000 x193001) else (none))
end
def impl_MoveMul.f (k : Nat) (l0 : List Int) (l1_0 : List (List Int)) (a1_1 : Int) (l2_0 : List (List Int)) (a2_1 : Int) : Option ((List (List Int)) × Int × Bool) := (impl_MoveValid.f k l0 l1_0 a1_1).bind fun t190 => (if t190 = true then ((impl_MoveValid.f k l0 l2_0 a2_1).bind fun t191 => (impl_MoveMul.j0 k l0 (!t191) l1_0 a1_1 l2_0 a2_1)) else (impl_MoveMul.j0 k l0 true l1_0 a1_1 l2_0 a2_1))
theorem impl_MoveMul.mono_l : ∀ k, (∀ y0 y1 y2 y3 y4 y5, LeO (impl_MoveMul.j0 k y0 y1 y2 y3 y4 y5) (impl_MoveMul.j0 (k + 1) y0 y1 y2 y3 y4 y5)) ∧ (∀ y0 y1 y2 y3 y4 y5 y6 y7, LeO (impl_MoveMul.l0 k y0 y1 y2 y3 y4 y5 y6 y7) (impl_MoveMul.l0 (k + 1) y0 y1 y2 y3 y4 y5 y6 y7)) ∧ (∀ y0 y1 y2 y3 y4 y5 y6 y7 y8 y9 y10 y11, LeO (impl_MoveMul.l1 k y0 y1 y2 y3 y4 y5 y6 y7 y8 y9 y10 y11) (impl_MoveMul.l1 (k + 1) y0 y1 y2 y3 y4 y5 y6 y7 y8 y9 y10 y11)) ∧ (∀ y0 y1 y2 y3 y4 y5 y6 y7 y8 y9 y10 y11 y12 y13 y14 y15, LeO (impl_MoveMul.l2 k y0 y1 y2 y3 y4 y5 y6 y7 y8 y9 y10 y11 y12 y13 y14 y15) (impl_MoveMul.l2 (k + 1) y0 y1 y2 y3 y4 y5 y6 y7 y8 y9 y10 y11 y12 y13 y14 y15))
  | 0 => ⟨fun _ _ _ _ _ _ r h => by simp [impl_MoveMul.j0] at h, fun _ _ _ _ _ _ _ _ r h => by simp [impl_MoveMul.l0] at h, fun _ _ _ _ _ _ _ _ _ _ _ _ r h => by simp [impl_MoveMul.l1] at h, fun _ _ _ _ _ _ _ _ _ _ _ _ _ _ _ _ r h => by simp [impl_MoveMul.l2] at h⟩
  | k + 1 => by
    obtain ⟨ih0, ih1, ih2, ih3⟩ := impl_MoveMul.mono_l k
    refine ⟨?_, ?_, ?_, ?_⟩ <;> intros <;> (first | unfold impl_MoveMul.j0 | unfold impl_MoveMul.l0 | unfold impl_MoveMul.l1 | unfold impl_MoveMul.l2) <;> (repeat' first
      | (with_reducible exact ih0 _ _ _ _ _ _)
      | (with_reducible exact ih1 _ _ _ _ _ _ _ _)
      | (with_reducible exact ih2 _ _ _ _ _ _ _ _ _ _ _ _)
      | (with_reducible exact ih3 _ _ _ _ _ _ _ _ _ _ _ _ _ _ _ _)
      | (with_reducible exact impl_MoveValid.mono _ _ _ _)
      | (with_reducible exact impl_column.mono _ _ _ _)
      | (with_reducible exact impl_lowest.mono _ _ _ _)
      | (with_reducible exact LeO.refl _)
      | (with_reducible exact LeO.none _)
      | (with_reducible refine LeO.ite ?_ ?_)
      | (with_reducible refine LeO.bind ?_ (fun _ => ?_))
      | exact ih0 _ _ _ _ _ _
      | exact ih1 _ _ _ _ _ _ _ _
      | exact ih2 _ _ _ _ _ _ _ _ _ _ _ _
      | exact ih3 _ _ _ _ _ _ _ _ _ _ _ _ _ _ _ _
      | exact impl_MoveValid.mono _ _ _ _
      | exact impl_column.mono _ _ _ _
      | exact impl_lowest.mono _ _ _ _
      | exact LeO.none _
      | refine LeO.ite ?_ ?_
      | refine LeO.bind ?_ (fun _ => ?_))
theorem impl_MoveMul.mono : ∀ a0 a1 a2 a3 a4 k, LeO (impl_MoveMul.f k a0 a1 a2 a3 a4) (impl_MoveMul.f (k + 1) a0 a1 a2 a3 a4) := by
  intro a0 a1 a2 a3 a4 k
  obtain ⟨ih0, ih1, ih2, ih3⟩ := impl_MoveMul.mono_l k
  unfold impl_MoveMul.f
  repeat' first
      | (with_reducible exact ih0 _ _ _ _ _ _)
      | (with_reducible exact ih1 _ _ _ _ _ _ _ _)
      | (with_reducible exact ih2 _ _ _ _ _ _ _ _ _ _ _ _)
      | (with_reducible exact ih3 _ _ _ _ _ _ _ _ _ _ _ _ _ _ _ _)
      | (with_reducible exact impl_MoveValid.mono _ _ _ _)
      | (with_reducible exact impl_column.mono _ _ _ _)
      | (with_reducible exact impl_lowest.mono _ _ _ _)
      | (with_reducible exact LeO.refl _)
      | (with_reducible exact LeO.none _)
      | (with_reducible refine LeO.ite ?_ ?_)
      | (with_reducible refine LeO.bind ?_ (fun _ => ?_))
      | exact ih0 _ _ _ _ _ _
      | exact ih1 _ _ _ _ _ _ _ _
      | exact ih2 _ _ _ _ _ _ _ _ _ _ _ _
      | exact ih3 _ _ _ _ _ _ _ _ _ _ _ _ _ _ _ _
      | exact impl_MoveValid.mono _ _ _ _
      | exact impl_column.mono _ _ _ _
      | exact impl_lowest.mono _ _ _ _
      | exact LeO.none _
      | refine LeO.ite ?_ ?_
      | refine LeO.bind ?_ (fun _ => ?_)
set_option maxHeartbeats 8000000 in
set_option maxRecDepth 100000 in
theorem impl_MoveMul.calls (k : Nat) (A0 : Option Addr) (c0 : Nat) (l0 : List Int) (A1_0 : Option Addr) (c1_0 : Nat) (l1_0 : List (List Int)) (a1_1 : Int) (A2_0 : Option Addr) (c2_0 : Nat) (l2_0 : List (List Int)) (a2_1 : Int) (r1 : List (List Int)) (r2 : Int) (r3 : Bool) (w : World) (hr0 : Kd.C (Kd.int .i64) w A0 l0.length l0) (hc0 : l0.length ≤ c0) (hr1_0 : Kd.C (Kd.slice 3 (Kd.int .i64)) w A1_0 l1_0.length l1_0) (hc1_0 : l1_0.length ≤ c1_0) (hr2_0 : Kd.C (Kd.slice 3 (Kd.int .i64)) w A2_0 l2_0.length l2_0) (hc2_0 : l2_0.length ≤ c2_0) (h : impl_MoveMul.f k l0 l1_0 a1_1 l2_0 a2_1 = some (r1, r2, r3)) :
    Calls Try.prog 18 #[.slice A0 l0.length c0, .agg #[.slice A1_0 l1_0.length c1_0, .int .i64 a1_1], .agg #[.slice A2_0 l2_0.length c2_0, .int .i64 a2_1]] w fun e w' => ∃ v0_ : Value, e = .returned (.tuple #[.agg #[v0_, .int .i64 r2], .bool r3]) ∧ Kd.S (Kd.slice 3 (Kd.int .i64)) 23 w' w.heap.size (fun _ => True) v0_ r1 ∧ Below w.heap.size w w' := by
  have hu27 := Try.underlying27; have HR0 := Aside0.mk hr0; have HC0 := Aside0.mk hc0; clear hr0 hc0; have HR1_0 := Aside0.mk hr1_0; have HC1_0 := Aside0.mk hc1_0; clear hr1_0 hc1_0; have HR2_0 := Aside0.mk hr2_0; have HC2_0 := Aside0.mk hc2_0; clear hr2_0 hc2_0; have HB := Aside0.mk (Below.refl w.heap.size w); unfold impl_MoveMul.f at h; have H := h; clear h; have HC4 := Aside0.mk H; clear H; go_enter Try.func18, Try.ntmps18
  go_upto_region 1 with (first | ((with_reducible refine gate_dst (N := 4) rfl ?_); refine boxE (N := 4) (cs := #[.slice A1_0 l1_0.length c1_0, .int .i64 a1_1]) (t := 27) ?_; intro gb187 hg w5 hbox hb; have BK187 := Aside0.mk (hbox); have GW187 := GS w hg; have GE187 := GS w hg; replace HB := BS hb; clear hb hbox hg) | ((with_reducible refine gate_dst (N := 5) rfl ?_); refine boxE (N := 5) (cs := #[.slice A2_0 l2_0.length c2_0, .int .i64 a2_1]) (t := 27) ?_; intro gb188 hg w6 hbox hb; have BK188 := Aside0.mk (hbox); have GW188 := GS w hg; have GE188 := GS w hg; replace HB := BS hb; have NB187_188 := NL BK187 hg; have NB188_187 := NG BK187 hg; replace BK187 := bB BK187 hb; clear hb hbox hg) | ((with_reducible refine gate_dst (N := 6) rfl ?_); refine boxE (N := 6) (cs := #[.slice none 0 0, .int .i64 0]) (t := 27) ?_; intro gb189 hg w7 hbox hb; have BK189 := Aside0.mk (hbox); have GW189 := GS w hg; have GE189 := GS w hg; replace HB := BS hb; have NB187_189 := NL BK187 hg; have NB189_187 := NG BK187 hg; replace BK187 := bB BK187 hb; have NB188_189 := NL BK188 hg; have NB189_188 := NG BK188 hg; replace BK188 := bB BK188 hb; clear hb hbox hg))
  (try simp only [Act.put, List.setIfInBounds_toArray, List.set_cons_zero, List.set_cons_succ])
  go_cut [25] (fun v25 wc => ∃ (kq : Nat) (x25_3 : Bool), v25 = .bool x25_3 ∧ Aside0 (impl_MoveMul.j0 kq l0 x25_3 l1_0 a1_1 l2_0 a2_1 = some (r1, r2, r3)) ∧ Aside0 (kq ≤ k) ∧ Aside0 (wc.heap[gb187]? = some (.cells #[(.slice A1_0 l1_0.length c1_0), .int .i64 a1_1] 27 (0, 0))) ∧ Aside0 (wc.heap[gb188]? = some (.cells #[(.slice A2_0 l2_0.length c2_0), .int .i64 a2_1] 27 (0, 0))) ∧ Aside0 (wc.heap[gb189]? = some (.cells #[(.slice none 0 0), .int .i64 0] 27 (0, 0))) ∧ Aside0 (Below w.heap.size w wc))
  case first =>
    have H := HC4.out; clear HC4; obtain ⟨t190, A8, H⟩ := bnd H
    by_cases c9 : t190 = true
    · subst c9
      replace H := ifT H; obtain ⟨t191, A10, H⟩ := bnd H; have H' := Aside0.mk H; clear H; have hnb11 := NB187_188.out; have hnc11 := NB188_187.out; have hnb12 := NB187_189.out; have hnc12 := NB189_187.out; obtain ⟨hcz13_0, hcz13_1, hfz13_0, hfz13_1⟩ := bcf BK187
      go_wp2_with (first | ((with_reducible refine gate_callee (f := 21) rfl ?_); refine goesK (some 18) Try.func21 #[.slice A0 l0.length c0, .agg #[.slice A1_0 l1_0.length c1_0, .int .i64 a1_1]] ?_; (with_reducible refine (impl_MoveValid.calls k _ _ l0 _ _ l1_0 a1_1 true _ ?side1 ?side2 ?side3 ?side4 A8.out).mono ?_); (case side1 => exact U (Kd.C_below HR0.out HB.out)); (case side2 => exact HC0.out); (case side3 => exact U (Kd.C_below HR1_0.out HB.out)); (case side4 => exact HC1_0.out); rintro e w14 ⟨rfl, hb⟩; refine ⟨_, rfl, ?_⟩; replace BK187 := bB BK187 hb; replace BK188 := bB BK188 hb; replace BK189 := bB BK189 hb; replace HB := BS hb; (try clear hb); have hnb15 := NB188_189.out; have hnc15 := NB189_188.out; obtain ⟨hcz16_0, hcz16_1, hfz16_0, hfz16_1⟩ := bcf BK188) | (go_at_call 21; (with_reducible refine (impl_MoveValid.calls k _ _ l0 _ _ l2_0 a2_1 t191 _ ?side1 ?side2 ?side3 ?side4 A10.out).mono ?_); (case side1 => exact U (Kd.C_below HR0.out HB.out)); (case side2 => exact HC0.out); (case side3 => exact U (Kd.C_below HR2_0.out HB.out)); (case side4 => exact HC2_0.out); rintro e w17 ⟨rfl, hb⟩; replace BK187 := bB BK187 hb; replace BK188 := bB BK188 hb; replace BK189 := bB BK189 hb; replace HB := BS hb; (try clear hb)))
      go_meet
      case rel => exact ⟨_, (!t191), sR, H', ⟨oR⟩, ⟨U BK187.out⟩, ⟨U BK188.out⟩, ⟨U BK189.out⟩, ⟨BU⟩⟩
    replace c9 := Bool.eq_false_iff.mpr c9; subst c9; replace H := ifF H; have H' := Aside0.mk H; clear H; have hnb18 := NB187_188.out; have hnc18 := NB188_187.out; have hnb19 := NB187_189.out; have hnc19 := NB189_187.out; obtain ⟨hcz20_0, hcz20_1, hfz20_0, hfz20_1⟩ := bcf BK187
    go_wp2_with (first | ((with_reducible refine gate_callee (f := 21) rfl ?_); refine goesK (some 18) Try.func21 #[.slice A0 l0.length c0, .agg #[.slice A1_0 l1_0.length c1_0, .int .i64 a1_1]] ?_; (with_reducible refine (impl_MoveValid.calls k _ _ l0 _ _ l1_0 a1_1 false _ ?side1 ?side2 ?side3 ?side4 A8.out).mono ?_); (case side1 => exact U (Kd.C_below HR0.out HB.out)); (case side2 => exact HC0.out); (case side3 => exact U (Kd.C_below HR1_0.out HB.out)); (case side4 => exact HC1_0.out); rintro e w21 ⟨rfl, hb⟩; refine ⟨_, rfl, ?_⟩; replace BK187 := bB BK187 hb; replace BK188 := bB BK188 hb; replace BK189 := bB BK189 hb; replace HB := BS hb; (try clear hb)))
    go_meet
    case rel => exact ⟨_, (true), sR, H', ⟨oR⟩, ⟨U BK187.out⟩, ⟨U BK188.out⟩, ⟨U BK189.out⟩, ⟨BU⟩⟩
  case rest =>
    clear HC4; obtain ⟨kq, x25_3, rfl, HA, HJ3, BK187, BK188, BK189, HB⟩ := hcut; cases kq with
    | zero => exact absurd HA.out (by simp [impl_MoveMul.j0])
    | succ kj3 =>
      have H := HA.out; clear HA; simp only [impl_MoveMul.j0] at H
      by_cases c22 : x25_3 = true
      · subst c22
        replace H := ifT H; simp only [Option.some.injEq, Prod.mk.injEq] at H; obtain ⟨rfl, rfl, rfl⟩ := H; have hnb23 := NB189_187.out; have hnc23 := NB187_189.out; have hnb24 := NB189_188.out; have hnc24 := NB188_189.out; obtain ⟨hcz25_0, hcz25_1, hfz25_0, hfz25_1⟩ := bcf BK189
        go_wp2
        refine bodyPost_ret (results_ct rfl _ _ gb189 27 #[.slice none 0 0, .int .i64 0] (0, 0) _ rfl (by (with_reducible repeat (first | refine blk_drewN ?_ _ | refine blk_drew ?_ | refine blk_alloc ?_ _)); refine blk_put (cs := #[.slice none 0 0, .int .i64 0]) ?_ 1 _ rfl; (with_reducible repeat (first | refine blk_drewN ?_ _ | refine blk_drew ?_ | refine blk_alloc ?_ _)); refine blk_put (cs := #[.slice none 0 0, .int .i64 0]) ?_ 0 _ rfl; (with_reducible repeat (first | refine blk_drewN ?_ _ | refine blk_drew ?_ | refine blk_alloc ?_ _)); exact BK189.out) Try.underlying27 rfl (by kernel_rfl)) rfl ?_
        exact ⟨_, eR, by first | exact Kd.S_nil _ _ _ _ _ | exact Kd.N_nil _ _ _ _ _ | exact Kd.V_nil _ _ _ _ _ | exact Kd.Q_nil _ _ _ _ _ | exact Kd.R_nil _ _ _ _ _, BU⟩
      replace c22 := Bool.eq_false_iff.mpr c22; subst c22; replace H := ifF H; have H' := Aside0.mk H; clear H; have hnb26 := NB187_188.out; have hnc26 := NB188_187.out; have hnb27 := NB187_189.out; have hnc27 := NB189_187.out; obtain ⟨hcz28_0, hcz28_1, hfz28_0, hfz28_1⟩ := bcf BK187; have hnb29 := NB188_189.out; have hnc29 := NB189_188.out; obtain ⟨hcz30_0, hcz30_1, hfz30_0, hfz30_1⟩ := bcf BK188
      go_wp2_with (first | ((with_reducible refine gate_dst (N := 8) rfl ?_); refine boxE (N := 8) (cs := #[.slice none 0 0, .int .i64 0]) (t := 27) ?_; intro gb192 hg w31 hbox hb; have BK192 := Aside0.mk (hbox); have GW192 := GS w hg; have GE192 := GS w hg; replace HB := BS hb; have NB187_192 := NL BK187 hg; have NB192_187 := NG BK187 hg; replace BK187 := bB BK187 hb; have NB188_192 := NL BK188 hg; have NB192_188 := NG BK188 hg; replace BK188 := bB BK188 hb; have NB189_192 := NL BK189 hg; have NB192_189 := NG BK189 hg; replace BK189 := bB BK189 hb; clear hb hbox hg; have hnb32 := NB192_187.out; have hnc32 := NB187_192.out; have hnb33 := NB192_188.out; have hnc33 := NB188_192.out; have hnb34 := NB192_189.out; have hnc34 := NB189_192.out; obtain ⟨hcz35_0, hcz35_1, hfz35_0, hfz35_1⟩ := bcf BK192; obtain ⟨hcz36_0, hcz36_1, hfz36_0, hfz36_1⟩ := bcf BK187))
      go_loopg [36] kj3 (fun kq v36 w' => ∃ (x36_2 : Int) (x193000_2 : List (List Int)) (u193000 : Value), v36 = .int .i64 x36_2 ∧ Aside0 (impl_MoveMul.l0 kq l0 l1_0 (l1_0.length : Int) x36_2 l2_0 a2_1 x193000_2 (wrap64 (a1_1 * a2_1)) = some (r1, r2, r3)) ∧ Aside0 (kq ≤ kj3) ∧ Aside0 (Kd.S (Kd.slice 3 (Kd.int .i64)) 23 w' w.heap.size (fun _ => True) u193000 x193000_2) ∧ Aside0 (w'.heap[gb187]? = some (.cells #[(.slice A1_0 l1_0.length c1_0), .int .i64 a1_1] 27 (0, 0))) ∧ Aside0 (w'.heap[gb188]? = some (.cells #[(.slice A2_0 l2_0.length c2_0), .int .i64 a2_1] 27 (0, 0))) ∧ Aside0 (w'.heap[gb189]? = some (.cells #[(.slice none 0 0), .int .i64 0] 27 (0, 0))) ∧ Aside0 (w'.heap[gb192]? = some (.cells #[u193000, .int .i64 (wrap64 (a1_1 * a2_1))] 27 (0, 0))) ∧ Aside0 (Below w.heap.size w w'))
      case atStart => exact ⟨(0), (([] : List (List Int))), (.slice none 0 0), sR, H', ⟨Nat.le_refl _⟩, ⟨by first | exact Kd.S_nil _ _ _ _ _ | exact Kd.N_nil _ _ _ _ _ | exact Kd.V_nil _ _ _ _ _ | exact Kd.Q_nil _ _ _ _ _ | exact Kd.R_nil _ _ _ _ _⟩, ⟨by (with_reducible repeat (first | refine blk_drewN ?_ _ | refine blk_drew ?_ | refine blk_alloc ?_ _)); refine blk_far ?_ NB187_192.out _; (with_reducible repeat (first | refine blk_drewN ?_ _ | refine blk_drew ?_ | refine blk_alloc ?_ _)); refine blk_far ?_ NB187_192.out _; (with_reducible repeat (first | refine blk_drewN ?_ _ | refine blk_drew ?_ | refine blk_alloc ?_ _)); exact BK187.out⟩, ⟨by (with_reducible repeat (first | refine blk_drewN ?_ _ | refine blk_drew ?_ | refine blk_alloc ?_ _)); refine blk_far ?_ NB188_192.out _; (with_reducible repeat (first | refine blk_drewN ?_ _ | refine blk_drew ?_ | refine blk_alloc ?_ _)); refine blk_far ?_ NB188_192.out _; (with_reducible repeat (first | refine blk_drewN ?_ _ | refine blk_drew ?_ | refine blk_alloc ?_ _)); exact BK188.out⟩, ⟨by (with_reducible repeat (first | refine blk_drewN ?_ _ | refine blk_drew ?_ | refine blk_alloc ?_ _)); refine blk_far ?_ NB189_192.out _; (with_reducible repeat (first | refine blk_drewN ?_ _ | refine blk_drew ?_ | refine blk_alloc ?_ _)); refine blk_far ?_ NB189_192.out _; (with_reducible repeat (first | refine blk_drewN ?_ _ | refine blk_drew ?_ | refine blk_alloc ?_ _)); exact BK189.out⟩, ⟨by (with_reducible repeat (first | refine blk_drewN ?_ _ | refine blk_drew ?_ | refine blk_alloc ?_ _)); refine blk_put (cs := #[.slice none 0 0, .int .i64 0]) ?_ 1 _ rfl; (with_reducible repeat (first | refine blk_drewN ?_ _ | refine blk_drew ?_ | refine blk_alloc ?_ _)); refine blk_put (cs := #[.slice none 0 0, .int .i64 0]) ?_ 0 _ rfl; (with_reducible repeat (first | refine blk_drewN ?_ _ | refine blk_drew ?_ | refine blk_alloc ?_ _)); exact BK192.out⟩, ⟨BU⟩⟩
      case round =>
        clear H'; (try clear c22); (try clear hcz28_0); (try clear hcz28_1); (try clear hcz30_0); (try clear hcz30_1); (try clear hcz35_0); (try clear hcz35_1); (try clear hcz36_0); (try clear hcz36_1); (try clear hfz28_0); (try clear hfz28_1); (try clear hfz30_0); (try clear hfz30_1); (try clear hfz35_0); (try clear hfz35_1); (try clear hfz36_0); (try clear hfz36_1); obtain ⟨x36_2, x193000_2, u193000, rfl, HA, HK2, HO_193000, BK187, BK188, BK189, BK192, HB⟩ := hrel; cases gk with
        | zero => exact absurd HA.out (by simp [impl_MoveMul.l0])
        | succ k2 =>
          have H := HA.out; clear HA; simp only [impl_MoveMul.l0] at H
          by_cases c37 : x36_2 < (l1_0.length : Int)
          · rw [if_pos c37] at H
            have c37b0 : decide (x36_2 < (l1_0.length : Int)) = true := decide_eq_true c37; clear c37; obtain ⟨c38, H⟩ := ifN H; have c38b0 : decide (0 ≤ x36_2) = true := decide_eq_true c38; clear c38; obtain ⟨c39, H⟩ := ifN H; have c39b0 : decide (x36_2 < (l1_0.length : Int)) = true := decide_eq_true c39; clear c39; obtain ⟨y199, hy199⟩ : ∃ y_ : List Int, y_ = (([] : List Int)) := ⟨_, rfl⟩; replace H : (impl_MoveMul.l1 k2 l0 (rd_L1 l1_0 x36_2) y199 l1_0 (l1_0.length : Int) x36_2 (l0.length : Int) 0 l2_0 a2_1 x193000_2 (wrap64 (a1_1 * a2_1))) = some (r1, r2, r3) := rH hy199 H; have Ny199 := Aside0.mk hy199; clear hy199; have H' := Aside0.mk H; clear H; have p198 : 0 ≤ (x36_2 : Int) := oD; have q198 : x36_2 < (l1_0.length : Int) := oD; obtain ⟨ad198, A198_0, c198_0, e198, hx198_0, hl198_0, hi198_0⟩ := at_L1 HR1_0.out x36_2 p198 q198; cases e198; replace hx198_0 := (HB.out.cell (World.block_lt_of_cell? w _ hx198_0)).trans hx198_0; have HR198_0 := Aside0.mk hi198_0; have HC198_0 := Aside0.mk hl198_0; clear hi198_0 hl198_0; replace p198 := eq_true p198; replace q198 := eq_true q198
            go_wp2_with (first | ((with_reducible refine gate_dst (N := 40) rfl ?_); refine Kd.R_lit (Kd.int .i64) _ 3 ?hg (N := 40) ?hd (xs := ([] : List Int)) (inner := []) (ok := fun _ => True) (okp := fun _ => True) ?hr ?hp (fun _ hk => hk) trivial (Below.refl _ _) (Nat.le_refl _) (by simp) ?_; (case hd => rfl); (case hg => rfl); (case hr => first | (go_simp; done) | (go_simp; rfl)); (case hp => exact (Reps.none _ _)); intro v200 w40 ho41 hb hg_ hnew_; clear hg_ hnew_; (first | rw [← Ny199.out] at ho41 | (simp only [Int.reduceToNat] at ho41; rw [← Ny199.out] at ho41)); replace HO_193000 := Aside0.mk (Kd.S_elder' (U HO_193000.out) (Kd.R_base ho41) hb); have HO201 := Aside0.mk (Kd.R_lower ho41 (below_size BU)); replace BK187 := bB BK187 hb; replace BK188 := bB BK188 hb; replace BK189 := bB BK189 hb; replace BK192 := bB BK192 hb; replace HB := BS hb; clear hb ho41))
            go_loopg [11, 43] k2 (fun kq v11 v43 w' => ∃ (x11_3 : List Int) (x43_3 : Int), v43 = .int .i64 x43_3 ∧ Aside0 (impl_MoveMul.l1 kq l0 (rd_L1 l1_0 x36_2) x11_3 l1_0 (l1_0.length : Int) x36_2 (l0.length : Int) x43_3 l2_0 a2_1 x193000_2 (wrap64 (a1_1 * a2_1)) = some (r1, r2, r3)) ∧ Aside0 (kq ≤ k2) ∧ Aside0 (Kd.R (Kd.int .i64) 3 w' w.heap.size (fun _ => True) v11 x11_3) ∧ Aside0 (Kd.S (Kd.slice 3 (Kd.int .i64)) 23 w' w.heap.size (fun k_ => some k_ ≠ (v11 : Value).ownBlock) u193000 x193000_2) ∧ Aside0 (w'.heap[gb187]? = some (.cells #[(.slice (some ad198) l1_0.length c1_0), .int .i64 a1_1] 27 (0, 0))) ∧ Aside0 (w'.heap[gb188]? = some (.cells #[(.slice A2_0 l2_0.length c2_0), .int .i64 a2_1] 27 (0, 0))) ∧ Aside0 (w'.heap[gb189]? = some (.cells #[(.slice none 0 0), .int .i64 0] 27 (0, 0))) ∧ Aside0 (w'.heap[gb192]? = some (.cells #[u193000, .int .i64 (wrap64 (a1_1 * a2_1))] 27 (0, 0))) ∧ Aside0 (Below w.heap.size w w'))
            case atStart => exact ⟨(y199), (0), sR, H', ⟨Nat.le_refl _⟩, ⟨U HO201.out⟩, ⟨Kd.SM HO_193000.out (fun _ hk => hk.2)⟩, ⟨U BK187.out⟩, ⟨U BK188.out⟩, ⟨U BK189.out⟩, ⟨U BK192.out⟩, ⟨BU⟩⟩
            case round =>
              clear H'; (try clear c22); (try clear c37); (try clear c37b0); (try clear c38); (try clear c38b0); (try clear c39); (try clear c39b0); (try clear hcz28_0); (try clear hcz28_1); (try clear hcz30_0); (try clear hcz30_1); (try clear hcz35_0); (try clear hcz35_1); (try clear hcz36_0); (try clear hcz36_1); (try clear hfz28_0); (try clear hfz28_1); (try clear hfz30_0); (try clear hfz30_1); (try clear hfz35_0); (try clear hfz35_1); (try clear hfz36_0); (try clear hfz36_1); (try clear hx198_0); (try clear p198); (try clear q198); obtain ⟨x11_3, x43_3, rfl, HA, HK3, HO_11, HO_193000, BK187, BK188, BK189, BK192, HB⟩ := hrel; cases gk with
              | zero => exact absurd HA.out (by simp [impl_MoveMul.l1])
              | succ k3 =>
                have H := HA.out; clear HA; simp only [impl_MoveMul.l1] at H
                by_cases c42 : x43_3 < (l0.length : Int)
                · rw [if_pos c42] at H
                  have c42b0 : decide (x43_3 < (l0.length : Int)) = true := decide_eq_true c42; clear c42; obtain ⟨t205, A43, H⟩ := bnd H; have H' := Aside0.mk H; clear H; have hnb44 := NB188_187.out; have hnc44 := NB187_188.out; have hnb45 := NB188_189.out; have hnc45 := NB189_188.out; have hnb46 := NB188_192.out; have hnc46 := NB192_188.out; obtain ⟨hcz47_0, hcz47_1, hfz47_0, hfz47_1⟩ := bcf BK188
                  go_wp2_with (first | ((with_reducible refine gate_callee (f := 59) rfl ?_); refine goesK (some 48) Try.func59 #[.agg #[.slice A2_0 l2_0.length c2_0, .int .i64 a2_1], .int .i64 x43_3] ?_; (with_reducible refine (impl_column.calls k3 _ _ l2_0 a2_1 x43_3 t205 _ ?side1 ?side2 A43.out).mono ?_); (case side1 => exact U (Kd.C_below HR2_0.out HB.out)); (case side2 => exact HC2_0.out); rintro e w48 ⟨v206, rfl, ho0, hb⟩; refine ⟨_, rfl, ?_⟩; replace HO_193000 := Aside0.mk (Kd.S_elder' (U HO_193000.out) (Kd.R_base ho0) hb); have HO207 := Aside0.mk (Kd.R_lower (Kd.R_new' ho0 (Kd.R_lt (U HO_11.out))) (below_size BU)); replace HO_11 := Aside0.mk (Kd.R_elder' (U HO_11.out) (Kd.R_base ho0) hb); replace BK187 := bB BK187 hb; replace BK188 := bB BK188 hb; replace BK189 := bB BK189 hb; replace BK192 := bB BK192 hb; replace HB := BS hb; (try clear hb); (try clear ho0); obtain ⟨Ao49, co49, eo49⟩ := Kd.R_slice HO207.out; subst eo49))
                  go_loopg [13, 50] k3 (fun kq v13 v50 w' => ∃ (x13_4 : Int) (x50_4 : Int), v13 = .int .i64 x13_4 ∧ v50 = .int .i64 x50_4 ∧ Aside0 (impl_MoveMul.l2 kq l0 (rd_L1 l1_0 x36_2) x11_3 x13_4 l1_0 (l1_0.length : Int) x36_2 (l0.length : Int) x43_3 t205 (t205.length : Int) x50_4 l2_0 a2_1 x193000_2 (wrap64 (a1_1 * a2_1)) = some (r1, r2, r3)) ∧ Aside0 (kq ≤ k3) ∧ Aside0 (Kd.R (Kd.int .i64) 3 w' w.heap.size (fun k_ => some k_ ≠ ((.slice Ao49 t205.length co49) : Value).ownBlock) u11 x11_3) ∧ Aside0 (Kd.R (Kd.int .i64) 3 w' w.heap.size (fun k_ => some k_ ≠ (u11 : Value).ownBlock) (.slice Ao49 t205.length co49) t205) ∧ Aside0 (Kd.S (Kd.slice 3 (Kd.int .i64)) 23 w' w.heap.size (fun k_ => some k_ ≠ (u11 : Value).ownBlock ∧ some k_ ≠ ((.slice Ao49 t205.length co49) : Value).ownBlock) u193000 x193000_2) ∧ Aside0 (w'.heap[gb187]? = some (.cells #[(.slice (some ad198) l1_0.length c1_0), .int .i64 a1_1] 27 (0, 0))) ∧ Aside0 (w'.heap[gb188]? = some (.cells #[(.slice A2_0 l2_0.length c2_0), .int .i64 a2_1] 27 (0, 0))) ∧ Aside0 (w'.heap[gb189]? = some (.cells #[(.slice none 0 0), .int .i64 0] 27 (0, 0))) ∧ Aside0 (w'.heap[gb192]? = some (.cells #[u193000, .int .i64 (wrap64 (a1_1 * a2_1))] 27 (0, 0))) ∧ Aside0 (Below w.heap.size w w'))
                  case atStart => exact ⟨(0), (0), sR, sR, H', ⟨Nat.le_refl _⟩, ⟨Kd.RM HO_11.out (fun _ hk => hk.2)⟩, ⟨Kd.RM HO207.out (fun _ hk => hk.2)⟩, ⟨U HO_193000.out⟩, ⟨U BK187.out⟩, ⟨U BK188.out⟩, ⟨U BK189.out⟩, ⟨U BK192.out⟩, ⟨BU⟩⟩
                  case round =>
                    clear H'; (try clear c22); (try clear c37); (try clear c37b0); (try clear c38); (try clear c38b0); (try clear c39); (try clear c39b0); (try clear c42); (try clear c42b0); (try clear hcz28_0); (try clear hcz28_1); (try clear hcz30_0); (try clear hcz30_1); (try clear hcz35_0); (try clear hcz35_1); (try clear hcz36_0); (try clear hcz36_1); (try clear hcz47_0); (try clear hcz47_1); (try clear hfz28_0); (try clear hfz28_1); (try clear hfz30_0); (try clear hfz30_1); (try clear hfz35_0); (try clear hfz35_1); (try clear hfz36_0); (try clear hfz36_1); (try clear hfz47_0); (try clear hfz47_1); (try clear hx198_0); (try clear p198); (try clear q198); obtain ⟨x13_4, x50_4, rfl, rfl, HA, HK4, HO_11, HO_48, HO_193000, BK187, BK188, BK189, BK192, HB⟩ := hrel; cases gk with
                    | zero => exact absurd HA.out (by simp [impl_MoveMul.l2])
                    | succ k4 =>
                      have H := HA.out; clear HA; simp only [impl_MoveMul.l2] at H
                      by_cases c50 : x50_4 < (t205.length : Int)
                      · rw [if_pos c50] at H
                        have c50b0 : decide (x50_4 < (t205.length : Int)) = true := decide_eq_true c50; clear c50; obtain ⟨c51, H⟩ := ifN H; have c51b0 : decide (0 ≤ x50_4) = true := decide_eq_true c51; clear c51; obtain ⟨c52, H⟩ := ifN H; have c52b0 : decide (x50_4 < (t205.length : Int)) = true := decide_eq_true c52; clear c52; obtain ⟨c53, H⟩ := ifN H; have c53b0 : decide (x50_4 < ((rd_L1 l1_0 x36_2).length : Int)) = true := decide_eq_true c53; clear c53; have H' := Aside0.mk H; clear H; have p208 : 0 ≤ (x50_4 : Int) := oD; have q208 : x50_4 < (t205.length : Int) := oD; obtain ⟨ad208, e208, hx208_0⟩ := Kd.at_int (Kd.R_reads' HO_48.out).2.2 x50_4 p208 q208; cases e208; replace p208 := eq_true p208; replace q208 := eq_true q208; have p209 : 0 ≤ (x50_4 : Int) := oD; have q209 : x50_4 < ((rd_L1 l1_0 x36_2).length : Int) := oD; obtain ⟨ad209, e209, hx209_0⟩ := Kd.at_int HR198_0.out x50_4 p209 q209; cases e209; replace hx209_0 := (HB.out.cell (World.block_lt_of_cell? w _ hx209_0)).trans hx209_0; replace p209 := eq_true p209; replace q209 := eq_true q209
                        go_wp2
                        go_roundg k4
                        case measure => have := HJ3.out; have := HK2.out; have := HK3.out; have := HK4.out; omega
                        case rel => exact ⟨(wrap64 (x13_4 + (wrap64 ((rd (rd_L1 l1_0 x36_2) x50_4) * (rd t205 x50_4))))), (wrap64 (x50_4 + 1)), sR, sR, H', ⟨by have := HJ3.out; have := HK2.out; have := HK3.out; have := HK4.out; omega⟩, ⟨U HO_11.out⟩, ⟨U HO_48.out⟩, ⟨U HO_193000.out⟩, ⟨U BK187.out⟩, ⟨U BK188.out⟩, ⟨U BK189.out⟩, ⟨U BK192.out⟩, ⟨BU⟩⟩
                      rw [if_neg c50] at H; have c50b0 : decide (x50_4 < (t205.length : Int)) = false := decide_eq_false c50; clear c50; obtain ⟨c54, H⟩ := ifN H; have LMc54 := Aside0.mk c54; clear c54; obtain ⟨y210, hy210⟩ : ∃ y_ : List Int, y_ = (x11_3 ++ [x13_4]) := ⟨_, rfl⟩; replace H : (impl_MoveMul.l1 k4 l0 (rd_L1 l1_0 x36_2) y210 l1_0 (l1_0.length : Int) x36_2 (l0.length : Int) (wrap64 (x43_3 + 1)) l2_0 a2_1 x193000_2 (wrap64 (a1_1 * a2_1))) = some (r1, r2, r3) := rH hy210 H; have Ny210 := Aside0.mk hy210; clear hy210; have H' := Aside0.mk H; clear H
                      go_wp2_with (first | ((with_reducible refine gate_builtin (b := .append) (xs := #[.tmp 64, .tmp 66]) rfl ?_); at_builtin; refine Kd.R_append (Kd.int .i64) (w0 := w) w.heap.size rfl (.tmp 64) (.tmp 66) 23 3 (.int .i64 0) 8 rfl Try.underlying23 info3 rfl (by decide) (by omega) u11 x11_3 x13_4 [.int .i64 x13_4] (fun k_ => some k_ ≠ (.slice Ao49 t205.length co49 : Value).ownBlock) (fun _ => False) rfl rfl ?aP (fun _ hk => hk.elim) ?aF ?aO ?aB ?aS ?aL ?_; (case aP => exact rfl); (case aB => exact BU); (case aF => exact (fun k_ hk => Kd.fresh' (Kd.R_lt (U HO_48.out)) k_ hk)); (case aO => exact (U HO_11.out)); (case aS => exact (below_size BU)); (case aL => have := LMc54.out; omega); intro v211 w55 ho hb hg hat; rw [← Ny210.out] at ho; have n0_ := Aside0.mk (Kd.R_after (ok := (fun _ => True)) (Kd.RM HO_48.out (fun _ hk => ⟨trivial, hk⟩)) hg hat); have n1_ := Aside0.mk (Kd.S_after (ok := (fun k_ => some k_ ≠ (.slice Ao49 t205.length co49 : Value).ownBlock)) (Kd.SM HO_193000.out (fun _ hk => ⟨hk.2, hk.1⟩)) hg hat); have n2_ := bG BK187 hg (Kd.R_ne HO_11.out BK187.out (by decide)); have n3_ := bG BK188 hg (Kd.R_ne HO_11.out BK188.out (by decide)); have n4_ := bG BK189 hg (Kd.R_ne HO_11.out BK189.out (by decide)); have n5_ := bG BK192 hg (Kd.R_ne HO_11.out BK192.out (by decide)); have n6_ := Aside0.mk (hb); have n7_ := Aside0.mk (ho); clear HO_48; clear HO_193000; clear BK187; clear BK188; clear BK189; clear BK192; try clear HB; clear HO_11; have HO_48 := n0_; have HO_193000 := n1_; have BK187 := n2_; have BK188 := n3_; have BK189 := n4_; have BK192 := n5_; have HB := n6_; have HO212 := n7_; clear n0_ n1_ n2_ n3_ n4_ n5_ n6_ n7_; clear ho hb hg hat))
                      go_roundg k4
                      case measure => have := HJ3.out; have := HK2.out; have := HK3.out; have := HK4.out; omega
                      case rel => exact ⟨(y210), (wrap64 (x43_3 + 1)), sR, H', ⟨by have := HJ3.out; have := HK2.out; have := HK3.out; have := HK4.out; omega⟩, ⟨Kd.RM HO212.out (fun _ hk => trivial)⟩, ⟨Kd.SM HO_193000.out (fun _ hk => hk.2)⟩, ⟨U BK187.out⟩, ⟨U BK188.out⟩, ⟨U BK189.out⟩, ⟨U BK192.out⟩, ⟨BU⟩⟩
                rw [if_neg c42] at H; have c42b0 : decide (x43_3 < (l0.length : Int)) = false := decide_eq_false c42; clear c42; obtain ⟨c56, H⟩ := ifN H; have LMc56 := Aside0.mk c56; clear c56; obtain ⟨y202, hy202⟩ : ∃ y_ : List (List Int), y_ = (x193000_2 ++ [x11_3]) := ⟨_, rfl⟩; replace H : (impl_MoveMul.l0 k3 l0 l1_0 (l1_0.length : Int) (wrap64 (x36_2 + 1)) l2_0 a2_1 y202 (wrap64 (a1_1 * a2_1))) = some (r1, r2, r3) := rH hy202 H; have Ny202 := Aside0.mk hy202; clear hy202; have H' := Aside0.mk H; clear H; have hnb57 := NB192_187.out; have hnc57 := NB187_192.out; have hnb58 := NB192_188.out; have hnc58 := NB188_192.out; have hnb59 := NB192_189.out; have hnc59 := NB189_192.out; obtain ⟨hcz60_0, hcz60_1, hfz60_0, hfz60_1⟩ := bcf BK192; obtain ⟨Ao62, co62, eo62⟩ := Kd.R_slice HO_11.out; subst eo62
                go_wp2_with (first | ((with_reducible refine gate_builtin (b := .append) (xs := #[.tmp 70, .tmp 72]) rfl ?_); at_builtin; refine Kd.S_append (Kd.slice 3 (Kd.int .i64)) (w0 := w) w.heap.size rfl (.tmp 70) (.tmp 72) 25 23 (.slice none 0 0) 24 rfl Try.underlying25 info23 rfl (by decide) (by omega) u193000 x193000_2 x11_3 [.slice Ao62 x11_3.length co62] (fun _ => True) (fun k_ => some k_ = (.slice Ao62 x11_3.length co62 : Value).ownBlock) rfl rfl ?aP (fun k_ hk_ => ((Kd.R_mono (ok' := fun k_ => ((fun _ => True)) k_ ∧ some k_ ≠ (u193000 : Value).ownBlock) (Kd.R_apart' (HO_11.out) (Kd.S_typed HO_193000.out) (by decide)) (fun k_ hk => ⟨trivial, hk.2⟩))).1 k_ hk_.symm) ?aF ?aO ?aB ?aS ?aL ?_; (case aP => exact Kd.M_row (Kd.R_mono (Kd.R_tight rfl (Kd.R_mono (ok' := fun k_ => ((fun _ => True)) k_ ∧ some k_ ≠ (u193000 : Value).ownBlock) (Kd.R_apart' (HO_11.out) (Kd.S_typed HO_193000.out) (by decide)) (fun k_ hk => ⟨trivial, hk.2⟩))) (fun _ h_ => h_))); (case aB => exact BU); (case aF => exact (fun _ _ => trivial)); (case aO => exact (Kd.SM HO_193000.out (fun k_ hk => ⟨trivial, fun e_ => hk e_⟩))); (case aS => exact (below_size BU)); (case aL => have := LMc56.out; omega); intro v203 w61 ho hb hg hat; rw [← Ny202.out] at ho; have n0_ := bG BK187 hg (Kd.S_ne HO_193000.out BK187.out (by decide)); have n1_ := bG BK188 hg (Kd.S_ne HO_193000.out BK188.out (by decide)); have n2_ := bG BK189 hg (Kd.S_ne HO_193000.out BK189.out (by decide)); have n3_ := bG BK192 hg (Kd.S_ne HO_193000.out BK192.out (by decide)); have n4_ := Aside0.mk (hb); have n5_ := Aside0.mk (ho); clear BK187; clear BK188; clear BK189; clear BK192; try clear HB; clear HO_193000; clear HO_11; have BK187 := n0_; have BK188 := n1_; have BK189 := n2_; have BK192 := n3_; have HB := n4_; have HO204 := n5_; clear n0_ n1_ n2_ n3_ n4_ n5_; clear ho hb hg hat; obtain ⟨Ao63, co63, eo63⟩ := Kd.S_slice HO204.out; subst eo63; obtain ⟨hcz64_0, hcz64_1, hfz64_0, hfz64_1⟩ := bcf BK192))
                go_roundg k3
                case measure => have := HJ3.out; have := HK2.out; have := HK3.out; omega
                case rel => exact ⟨(wrap64 (x36_2 + 1)), (y202), (.slice Ao63 y202.length co63), sR, H', ⟨by have := HJ3.out; have := HK2.out; have := HK3.out; omega⟩, ⟨Kd.SM (Kd.S_far (p := ⟨gb192, 0, none⟩) (Kd.S_types HO204.out BK192.out (by decide)) (fun _ hk => hk.2) (.slice Ao63 y202.length co63)) (fun _ hk => trivial)⟩, ⟨by (with_reducible repeat (first | refine blk_drewN ?_ _ | refine blk_drew ?_ | refine blk_alloc ?_ _)); refine blk_far ?_ NB187_192.out _; (with_reducible repeat (first | refine blk_drewN ?_ _ | refine blk_drew ?_ | refine blk_alloc ?_ _)); exact BK187.out⟩, ⟨by (with_reducible repeat (first | refine blk_drewN ?_ _ | refine blk_drew ?_ | refine blk_alloc ?_ _)); refine blk_far ?_ NB188_192.out _; (with_reducible repeat (first | refine blk_drewN ?_ _ | refine blk_drew ?_ | refine blk_alloc ?_ _)); exact BK188.out⟩, ⟨by (with_reducible repeat (first | refine blk_drewN ?_ _ | refine blk_drew ?_ | refine blk_alloc ?_ _)); refine blk_far ?_ NB189_192.out _; (with_reducible repeat (first | refine blk_drewN ?_ _ | refine blk_drew ?_ | refine blk_alloc ?_ _)); exact BK189.out⟩, ⟨by (with_reducible repeat (first | refine blk_drewN ?_ _ | refine blk_drew ?_ | refine blk_alloc ?_ _)); refine blk_put (cs := #[u193000, .int .i64 (wrap64 (a1_1 * a2_1))]) ?_ 0 _ rfl; (with_reducible repeat (first | refine blk_drewN ?_ _ | refine blk_drew ?_ | refine blk_alloc ?_ _)); exact BK192.out⟩, ⟨BU⟩⟩
          rw [if_neg c37] at H; have c37b0 : decide (x36_2 < (l1_0.length : Int)) = false := decide_eq_false c37; clear c37; obtain ⟨⟨t193, t196, t197⟩, A65, H⟩ := bnd H; replace H : (some (t193, t196, t197)) = some (r1, r2, r3) := H; simp only [Option.some.injEq, Prod.mk.injEq] at H; obtain ⟨rfl, rfl, rfl⟩ := H; have hnb66 := NB192_187.out; have hnc66 := NB187_192.out; have hnb67 := NB192_188.out; have hnc67 := NB188_192.out; have hnb68 := NB192_189.out; have hnc68 := NB189_192.out; obtain ⟨hcz69_0, hcz69_1, hfz69_0, hfz69_1⟩ := bcf BK192; obtain ⟨Ao70, co70, eo70⟩ := Kd.S_slice HO_193000.out; subst eo70
          go_wp2_with (first | ((with_reducible refine gate_callee (f := 58) rfl ?_); refine goesK (some 78) Try.func58 #[.slice A0 l0.length c0, .agg #[.slice Ao70 x193000_2.length co70, .int .i64 (wrap64 (a1_1 * a2_1))]] ?_; (with_reducible refine (impl_lowest.calls k2 _ _ l0 _ _ x193000_2 (wrap64 (a1_1 * a2_1)) t193 t196 t197 _ ?side1 ?side2 ?side3 ?side4 A65.out).mono ?_); (case side1 => exact U (Kd.C_below HR0.out HB.out)); (case side2 => exact HC0.out); (case side3 => exact U ((Kd.S_reads' HO_193000.out).2.2)); (case side4 => exact (Kd.S_reads' HO_193000.out).2.1); rintro e w71 ⟨v194, rfl, ho0, hb⟩; refine ⟨_, rfl, ?_⟩; have HO195 := Aside0.mk (Kd.S_lower (Kd.S_new' ho0 (Kd.S_lt (U HO_193000.out))) (below_size BU)); replace HO_193000 := Aside0.mk (Kd.S_elder' (U HO_193000.out) (Kd.S_base ho0) hb); replace BK187 := bB BK187 hb; replace BK188 := bB BK188 hb; replace BK189 := bB BK189 hb; replace BK192 := bB BK192 hb; replace HB := BS hb; (try clear hb); (try clear ho0); obtain ⟨Ao72, co72, eo72⟩ := Kd.S_slice HO195.out; subst eo72; have hnb73 := NB189_187.out; have hnc73 := NB187_189.out; have hnb74 := NB189_188.out; have hnc74 := NB188_189.out; obtain ⟨hcz75_0, hcz75_1, hfz75_0, hfz75_1⟩ := bcf BK189))
          refine bodyPost_ret (results_ct rfl _ _ gb189 27 #[.slice Ao72 t193.length co72, .int .i64 t196] (0, 0) _ rfl (by (with_reducible repeat (first | refine blk_drewN ?_ _ | refine blk_drew ?_ | refine blk_alloc ?_ _)); refine blk_put (cs := #[.slice Ao72 t193.length co72, .int .i64 0]) ?_ 1 _ rfl; (with_reducible repeat (first | refine blk_drewN ?_ _ | refine blk_drew ?_ | refine blk_alloc ?_ _)); refine blk_put (cs := #[.slice none 0 0, .int .i64 0]) ?_ 0 _ rfl; (with_reducible repeat (first | refine blk_drewN ?_ _ | refine blk_drew ?_ | refine blk_alloc ?_ _)); exact BK189.out) Try.underlying27 rfl (by kernel_rfl)) rfl ?_
          exact ⟨_, eR, Kd.SM (Kd.S_far (p := ⟨gb189, 1, none⟩) (Kd.S_far (p := ⟨gb189, 0, none⟩) (Kd.S_types HO195.out BK189.out (by decide)) (fun _ hk => hk.2) (.slice Ao72 t193.length co72)) (fun _ hk => hk.2) (.int .i64 t196)) (fun _ hk => trivial), BU⟩

/-! ### impl_product: function 61 -/
def impl_product.l0 : Nat → Int → List Int → Int → Int → Option (Int)
  | 0, _, _, _, _ => none
  | k + 1, x3, x6, x7, x8 => if x8 < x7 then (if 0 ≤ x8 then (if x8 < (x6.length : Int) then (impl_product.l0 k (wrap64 (x3 * (rd x6 x8))) x6 x7 (wrap64 (x8 + 1))) else (none)) else (none)) else (some x3)
def impl_product.f (k : Nat) (l0 : List Int) : Option (Int) := impl_product.l0 k 1 l0 (l0.length : Int) 0
theorem impl_product.mono_l : ∀ k, (∀ y0 y1 y2 y3, LeO (impl_product.l0 k y0 y1 y2 y3) (impl_product.l0 (k + 1) y0 y1 y2 y3))
  | 0 => fun _ _ _ _ r h => by simp [impl_product.l0] at h
  | k + 1 => by
    have ih0 := impl_product.mono_l k
    · intro y0 y1 y2 y3
      unfold impl_product.l0
      repeat' first
      | (with_reducible exact ih0 _ _ _ _)
      | (with_reducible exact LeO.refl _)
      | (with_reducible exact LeO.none _)
      | (with_reducible refine LeO.ite ?_ ?_)
      | (with_reducible refine LeO.bind ?_ (fun _ => ?_))
      | exact ih0 _ _ _ _
      | exact LeO.none _
      | refine LeO.ite ?_ ?_
      | refine LeO.bind ?_ (fun _ => ?_)
theorem impl_product.mono : ∀ a0 k, LeO (impl_product.f k a0) (impl_product.f (k + 1) a0) := by
  intro a0 k
  have ih0 := impl_product.mono_l k
  unfold impl_product.f
  repeat' first
      | (with_reducible exact ih0 _ _ _ _)
      | (with_reducible exact LeO.refl _)
      | (with_reducible exact LeO.none _)
      | (with_reducible refine LeO.ite ?_ ?_)
      | (with_reducible refine LeO.bind ?_ (fun _ => ?_))
      | exact ih0 _ _ _ _
      | exact LeO.none _
      | refine LeO.ite ?_ ?_
      | refine LeO.bind ?_ (fun _ => ?_)
set_option maxHeartbeats 8000000 in
set_option maxRecDepth 100000 in
theorem impl_product.calls (k : Nat) (A0 : Option Addr) (c0 : Nat) (l0 : List Int) (r : Int) (w : World) (hr0 : Kd.C (Kd.int .i64) w A0 l0.length l0) (hc0 : l0.length ≤ c0) (h : impl_product.f k l0 = some r) :
    Calls Try.prog 61 #[.slice A0 l0.length c0] w fun e w' => e = .returned (.int .i64 r) ∧ Drawn0 w w' := by
  have HR0 := Aside0.mk hr0; have HC0 := Aside0.mk hc0; clear hr0 hc0; unfold impl_product.f at h; have H := h; clear h; have H' := Aside0.mk H; clear H; go_enter Try.func61, Try.ntmps61
  go_wp2
  go_loopg [3, 8] k (fun kq v3 v8 w' => ∃ (x3_1 : Int) (x8_1 : Int), v3 = .int .i64 x3_1 ∧ v8 = .int .i64 x8_1 ∧ Aside0 (impl_product.l0 kq x3_1 l0 (l0.length : Int) x8_1 = some r) ∧ Aside0 (kq ≤ k) ∧ Drawn0 w w')
  case atStart => exact ⟨(1), (0), sR, sR, H', ⟨Nat.le_refl _⟩, by repeat (first | exact Drawn0.refl _ | apply Drawn0.step)⟩
  case round =>
    clear H'; obtain ⟨x3_1, x8_1, rfl, rfl, HA, HK1, ⟨m1, rfl⟩⟩ := hrel; cases gk with
    | zero => exact absurd HA.out (by simp [impl_product.l0])
    | succ k1 =>
      have H := HA.out; clear HA; simp only [impl_product.l0] at H
      by_cases c2 : x8_1 < (l0.length : Int)
      · rw [if_pos c2] at H
        have c2b0 : decide (x8_1 < (l0.length : Int)) = true := decide_eq_true c2; clear c2; obtain ⟨c3, H⟩ := ifN H; have c3b0 : decide (0 ≤ x8_1) = true := decide_eq_true c3; clear c3; obtain ⟨c4, H⟩ := ifN H; have c4b0 : decide (x8_1 < (l0.length : Int)) = true := decide_eq_true c4; clear c4; have H' := Aside0.mk H; clear H; have p213 : 0 ≤ (x8_1 : Int) := oD; have q213 : x8_1 < (l0.length : Int) := oD; obtain ⟨ad213, e213, hx213_0⟩ := Kd.at_int HR0.out x8_1 p213 q213; cases e213; replace p213 := eq_true p213; replace q213 := eq_true q213
        go_wp2
        go_roundg k1
        case measure => have := HK1.out; omega
        case rel => exact ⟨(wrap64 (x3_1 * (rd l0 x8_1))), (wrap64 (x8_1 + 1)), sR, sR, H', ⟨by have := HK1.out; omega⟩, by repeat (first | exact Drawn0.refl _ | apply Drawn0.step)⟩
      rw [if_neg c2] at H; have c2b0 : decide (x8_1 < (l0.length : Int)) = false := decide_eq_false c2; clear c2; obtain rfl := Option.some.inj H
      go_wp2
      go_ret
      exact ⟨by first | rfl | (simp; done) | (simp [*]; done), by repeat (first | exact Drawn0.refl _ | apply Drawn0.step)⟩

end Go.Proofs.Ytnbeeogmaamgdaa.PFnMove
