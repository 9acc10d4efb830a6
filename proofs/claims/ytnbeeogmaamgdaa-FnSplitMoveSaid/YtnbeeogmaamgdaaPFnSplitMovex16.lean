import Derived.Test.YtnbeeogmaamgdaaPFnSplitMovex0
namespace Go.Proofs.Ytnbeeogmaamgdaa.PFnSplitMove
open Go.RowKit Go.Proofs.YtnbeeogmaamgdaaW.PrintWords Go.Proofs.YtnbeeogmaamgdaaW.PrintLast Go.Proofs.YtnbeeogmaamgdaaW.PrintMore
attribute [local go_sem] max2_int min2_int max_two min_two max_three min_three max_four min_four   -- for this text's walks alone
set_option linter.unusedVariables false
set_option linter.unusedSimpArgs false

/-! ### spec_l7On: function 69 -/
mutual
def spec_l7On.l0 : Nat → List Int → List Int → Int → List (List Int) → Int → Option (List Int)
  | 0, _, _, _, _, _ => none
  | k + 1, x1, x5, x6, x513000, x513001 => if x6 < (x1.length : Int) then (spec_l7On.l1 k x1 x5 x6 0 0 x513000 x513001) else (some x5)
def spec_l7On.l1 : Nat → List Int → List Int → Int → Int → Int → List (List Int) → Int → Option (List Int)
  | 0, _, _, _, _, _, _, _ => none
  | k + 1, x1, x5, x6, x7, x8, x513000, x513001 => if x8 < (x1.length : Int) then (if 0 ≤ x6 then (if x6 < (x513000.length : Int) then (if 0 ≤ x8 then (if x8 < ((rd_L1 x513000 x6).length : Int) then (spec_l7On.l1 k x1 x5 x6 (wrap64 (x7 + (wrap64 ((rd (rd_L1 x513000 x6) x8) * (rd x1 x8))))) (wrap64 (x8 + 1)) x513000 x513001) else (none)) else (none)) else (none)) else (none)) else (if x5.length < 17592186044416 then (spec_l7On.l0 k x1 (x5 ++ [x7]) (wrap64 (x6 + 1)) x513000 x513001) else (none))
end
def spec_l7On.f (k : Nat) (l0_0 : List (List Int)) (a0_1 : Int) (l1 : List Int) : Option (List Int) := spec_l7On.l0 k l1 (([] : List Int)) 0 l0_0 a0_1
theorem spec_l7On.mono_l : ∀ k, (∀ y0 y1 y2 y3 y4, LeO (spec_l7On.l0 k y0 y1 y2 y3 y4) (spec_l7On.l0 (k + 1) y0 y1 y2 y3 y4)) ∧ (∀ y0 y1 y2 y3 y4 y5 y6, LeO (spec_l7On.l1 k y0 y1 y2 y3 y4 y5 y6) (spec_l7On.l1 (k + 1) y0 y1 y2 y3 y4 y5 y6))
  | 0 => ⟨fun _ _ _ _ _ r h => by simp [spec_l7On.l0] at h, fun _ _ _ _ _ _ _ r h => by simp [spec_l7On.l1] at h⟩
  | k + 1 => by
    obtain ⟨ih0, ih1⟩ := spec_l7On.mono_l k
    refine ⟨?_, ?_⟩ <;> intros <;> (first | unfold spec_l7On.l0 | unfold spec_l7On.l1) <;> (with_reducible repeat' first | exact ih0 _ _ _ _ _ | exact ih1 _ _ _ _ _ _ _ | exact LeO.refl _ | exact LeO.none _ | refine LeO.ite ?_ ?_ | refine LeO.bind ?_ (fun _ => ?_))
theorem spec_l7On.mono : ∀ a0 a1 a2 k, LeO (spec_l7On.f k a0 a1 a2) (spec_l7On.f (k + 1) a0 a1 a2) := by
  intro a0 a1 a2 k
  obtain ⟨ih0, ih1⟩ := spec_l7On.mono_l k
  unfold spec_l7On.f
  with_reducible repeat' first | exact ih0 _ _ _ _ _ | exact ih1 _ _ _ _ _ _ _ | exact LeO.refl _ | exact LeO.none _ | refine LeO.ite ?_ ?_ | refine LeO.bind ?_ (fun _ => ?_)
set_option maxHeartbeats 8000000 in
set_option maxRecDepth 100000 in
theorem spec_l7On.calls (k : Nat) (A0_0 : Option Addr) (c0_0 : Nat) (l0_0 : List (List Int)) (a0_1 : Int) (A1 : Option Addr) (c1 : Nat) (l1 : List Int) (r : List Int) (w : World) (hr0_0 : Kd.C (Kd.slice 3 (Kd.int .i64)) w A0_0 l0_0.length l0_0) (hc0_0 : l0_0.length ≤ c0_0) (hr1 : Kd.C (Kd.int .i64) w A1 l1.length l1) (hc1 : l1.length ≤ c1) (h : spec_l7On.f k l0_0 a0_1 l1 = some r) :
    Calls Try.prog 69 #[.agg #[.slice A0_0 l0_0.length c0_0, .int .i64 a0_1], .slice A1 l1.length c1] w fun e w' => ∃ v0_ : Value, e = .returned (v0_) ∧ Kd.R (Kd.int .i64) 3 w' w.heap.size (fun _ => True) v0_ r ∧ Below w.heap.size w w' := by
  have hu27 := Try.underlying27; have HR0_0 := Aside0.mk hr0_0; have HC0_0 := Aside0.mk hc0_0; clear hr0_0 hc0_0; have HR1 := Aside0.mk hr1; have HC1 := Aside0.mk hc1; clear hr1 hc1; have HB := Aside0.mk (Below.refl w.heap.size w); unfold spec_l7On.f at h; have H := h; clear h; obtain ⟨y513, hy513⟩ : ∃ y_ : List Int, y_ = (([] : List Int)) := ⟨_, rfl⟩; replace H : (spec_l7On.l0 k l1 y513 0 l0_0 a0_1) = some r := rH hy513 H; have Ny513 := Aside0.mk hy513; clear hy513; have H' := Aside0.mk H; clear H; go_enter Try.func69, Try.ntmps69
  go_wp2_with (first | ((with_reducible refine gate_dst (N := 2) rfl ?_); refine boxE (N := 2) (cs := #[.slice A0_0 l0_0.length c0_0, .int .i64 a0_1]) (t := 27) ?_; intro gb512 hg w3 hbox hb; have BK512 := Aside0.mk (hbox); have GW512 := GS w hg; have GE512 := GS w hg; replace HB := BS hb; clear hb hbox hg) | ((with_reducible refine gate_dst (N := 9) rfl ?_); refine Kd.R_lit (Kd.int .i64) _ 3 ?hg (N := 9) ?hd (xs := ([] : List Int)) (inner := []) (ok := fun _ => True) (okp := fun _ => True) ?hr ?hp (fun _ hk => hk) trivial (Below.refl _ _) (Nat.le_refl _) (by simp) ?_; (case hd => rfl); (case hg => rfl); (case hr => first | (go_simp; done) | (go_simp; rfl)); (case hp => exact (Reps.none _ _)); intro v514 w4 ho5 hb hg_ hnew_; clear hg_ hnew_; (first | rw [← Ny513.out] at ho5 | (simp only [Int.reduceToNat] at ho5; rw [← Ny513.out] at ho5)); have HO515 := Aside0.mk (Kd.R_lower ho5 (below_size BU)); replace BK512 := bB BK512 hb; replace HB := BS hb; clear hb ho5))
  repeat (go_quiet (first | ((with_reducible refine gate_dst (N := 2) rfl ?_); refine boxE (N := 2) (cs := #[.slice A0_0 l0_0.length c0_0, .int .i64 a0_1]) (t := 27) ?_; intro gb512 hg w3 hbox hb; have BK512 := Aside0.mk (hbox); have GW512 := GS w hg; have GE512 := GS w hg; replace HB := BS hb; clear hb hbox hg) | ((with_reducible refine gate_dst (N := 9) rfl ?_); refine Kd.R_lit (Kd.int .i64) _ 3 ?hg (N := 9) ?hd (xs := ([] : List Int)) (inner := []) (ok := fun _ => True) (okp := fun _ => True) ?hr ?hp (fun _ hk => hk) trivial (Below.refl _ _) (Nat.le_refl _) (by simp) ?_; (case hd => rfl); (case hg => rfl); (case hr => first | (go_simp; done) | (go_simp; rfl)); (case hp => exact (Reps.none _ _)); intro v514 w4 ho5 hb hg_ hnew_; clear hg_ hnew_; (first | rw [← Ny513.out] at ho5 | (simp only [Int.reduceToNat] at ho5; rw [← Ny513.out] at ho5)); have HO515 := Aside0.mk (Kd.R_lower ho5 (below_size BU)); replace BK512 := bB BK512 hb; replace HB := BS hb; clear hb ho5)); try go_wp2_with (first | ((with_reducible refine gate_dst (N := 2) rfl ?_); refine boxE (N := 2) (cs := #[.slice A0_0 l0_0.length c0_0, .int .i64 a0_1]) (t := 27) ?_; intro gb512 hg w3 hbox hb; have BK512 := Aside0.mk (hbox); have GW512 := GS w hg; have GE512 := GS w hg; replace HB := BS hb; clear hb hbox hg) | ((with_reducible refine gate_dst (N := 9) rfl ?_); refine Kd.R_lit (Kd.int .i64) _ 3 ?hg (N := 9) ?hd (xs := ([] : List Int)) (inner := []) (ok := fun _ => True) (okp := fun _ => True) ?hr ?hp (fun _ hk => hk) trivial (Below.refl _ _) (Nat.le_refl _) (by simp) ?_; (case hd => rfl); (case hg => rfl); (case hr => first | (go_simp; done) | (go_simp; rfl)); (case hp => exact (Reps.none _ _)); intro v514 w4 ho5 hb hg_ hnew_; clear hg_ hnew_; (first | rw [← Ny513.out] at ho5 | (simp only [Int.reduceToNat] at ho5; rw [← Ny513.out] at ho5)); have HO515 := Aside0.mk (Kd.R_lower ho5 (below_size BU)); replace BK512 := bB BK512 hb; replace HB := BS hb; clear hb ho5)))
  go_loopg [5, 6] k (fun kq v5 v6 w' => ∃ (x5_1 : List Int) (x6_1 : Int), v6 = .int .i64 x6_1 ∧ Aside0 (spec_l7On.l0 kq l1 x5_1 x6_1 l0_0 a0_1 = some r) ∧ Aside0 (kq ≤ k) ∧ Aside0 (Kd.R (Kd.int .i64) 3 w' w.heap.size (fun _ => True) v5 x5_1) ∧ Aside0 (w'.heap[gb512]? = some (.cells #[(.slice A0_0 l0_0.length c0_0), .int .i64 a0_1] 27 (0, 0))) ∧ Aside0 (Below w.heap.size w w'))
  case atStart => exact ⟨(y513), (0), sR, H', ⟨Nat.le_refl _⟩, ⟨U HO515.out⟩, ⟨U BK512.out⟩, ⟨BU⟩⟩
  case round =>
    clear H'; obtain ⟨x5_1, x6_1, rfl, HA, HK1, HO_5, BK512, HB⟩ := hrel; cases gk with
    | zero => exact absurd HA.out (by simp [spec_l7On.l0])
    | succ k1 =>
      have H := HA.out; clear HA; simp only [spec_l7On.l0] at H
      by_cases c6 : x6_1 < (l1.length : Int)
      · rw [if_pos c6] at H
        have c6b0 : decide (x6_1 < (l1.length : Int)) = true := decide_eq_true c6; clear c6; have H' := Aside0.mk H; clear H
        go_wp2
        repeat (go_quiet (fail); try go_wp2)
        go_loopg [7, 8] k1 (fun kq v7 v8 w' => ∃ (x7_2 : Int) (x8_2 : Int), v7 = .int .i64 x7_2 ∧ v8 = .int .i64 x8_2 ∧ Aside0 (spec_l7On.l1 kq l1 x5_1 x6_1 x7_2 x8_2 l0_0 a0_1 = some r) ∧ Aside0 (kq ≤ k1) ∧ Aside0 (Kd.R (Kd.int .i64) 3 w' w.heap.size (fun _ => True) u5 x5_1) ∧ Aside0 (w'.heap[gb512]? = some (.cells #[(.slice A0_0 l0_0.length c0_0), .int .i64 a0_1] 27 (0, 0))) ∧ Aside0 (Below w.heap.size w w'))
        case atStart => exact ⟨(0), (0), sR, sR, H', ⟨Nat.le_refl _⟩, ⟨U HO_5.out⟩, ⟨U BK512.out⟩, ⟨BU⟩⟩
        case round =>
          clear H'; (try clear c6); (try clear c6b0); obtain ⟨x7_2, x8_2, rfl, rfl, HA, HK2, HO_5, BK512, HB⟩ := hrel; cases gk with
          | zero => exact absurd HA.out (by simp [spec_l7On.l1])
          | succ k2 =>
            have H := HA.out; clear HA; simp only [spec_l7On.l1] at H
            by_cases c7 : x8_2 < (l1.length : Int)
            · rw [if_pos c7] at H
              have c7b0 : decide (x8_2 < (l1.length : Int)) = true := decide_eq_true c7; clear c7; obtain ⟨c8, H⟩ := ifN H; have c8b0 : decide (0 ≤ x6_1) = true := decide_eq_true c8; clear c8; obtain ⟨c9, H⟩ := ifN H; have c9b0 : decide (x6_1 < (l0_0.length : Int)) = true := decide_eq_true c9; clear c9; obtain ⟨c10, H⟩ := ifN H; have c10b0 : decide (0 ≤ x8_2) = true := decide_eq_true c10; clear c10; obtain ⟨c11, H⟩ := ifN H; have c11b0 : decide (x8_2 < ((rd_L1 l0_0 x6_1).length : Int)) = true := decide_eq_true c11; clear c11; have H' := Aside0.mk H; clear H; obtain ⟨hcz12_0, hcz12_1, hfz12_0, hfz12_1⟩ := bcf BK512; have p516 : 0 ≤ (x6_1 : Int) := oD; have q516 : x6_1 < (l0_0.length : Int) := oD; obtain ⟨ad516, A516_0, c516_0, e516, hx516_0, hl516_0, hi516_0⟩ := at_L1 HR0_0.out x6_1 p516 q516; cases e516; replace hx516_0 := (HB.out.cell (World.block_lt_of_cell? w _ hx516_0)).trans hx516_0; have HR516_0 := Aside0.mk hi516_0; have HC516_0 := Aside0.mk hl516_0; clear hi516_0 hl516_0; replace p516 := eq_true p516; replace q516 := eq_true q516; have p517 : 0 ≤ (x8_2 : Int) := oD; have q517 : x8_2 < ((rd_L1 l0_0 x6_1).length : Int) := oD; obtain ⟨ad517, e517, hx517_0⟩ := Kd.at_int HR516_0.out x8_2 p517 q517; cases e517; replace hx517_0 := (HB.out.cell (World.block_lt_of_cell? w _ hx517_0)).trans hx517_0; replace p517 := eq_true p517; replace q517 := eq_true q517; have p518 : 0 ≤ (x8_2 : Int) := oD; have q518 : x8_2 < (l1.length : Int) := oD; obtain ⟨ad518, e518, hx518_0⟩ := Kd.at_int HR1.out x8_2 p518 q518; cases e518; replace hx518_0 := (HB.out.cell (World.block_lt_of_cell? w _ hx518_0)).trans hx518_0; replace p518 := eq_true p518; replace q518 := eq_true q518
              go_wp2
              repeat (go_quiet (fail); try go_wp2)
              go_roundg k2
              case measure => have := HK1.out; have := HK2.out; omega
              case rel => exact ⟨(wrap64 (x7_2 + (wrap64 ((rd (rd_L1 l0_0 x6_1) x8_2) * (rd l1 x8_2))))), (wrap64 (x8_2 + 1)), sR, sR, H', ⟨by have := HK1.out; have := HK2.out; omega⟩, ⟨U HO_5.out⟩, ⟨U BK512.out⟩, ⟨BU⟩⟩
            rw [if_neg c7] at H; have c7b0 : decide (x8_2 < (l1.length : Int)) = false := decide_eq_false c7; clear c7; obtain ⟨c13, H⟩ := ifN H; have LMc13 := Aside0.mk c13; clear c13; obtain ⟨y519, hy519⟩ : ∃ y_ : List Int, y_ = (x5_1 ++ [x7_2]) := ⟨_, rfl⟩; replace H : (spec_l7On.l0 k2 l1 y519 (wrap64 (x6_1 + 1)) l0_0 a0_1) = some r := rH hy519 H; have Ny519 := Aside0.mk hy519; clear hy519; have H' := Aside0.mk H; clear H
            go_wp2_with (first | ((with_reducible refine gate_builtin (b := .append) (xs := #[.tmp 37, .tmp 39]) rfl ?_); at_builtin; refine Kd.R_append (Kd.int .i64) (w0 := w) w.heap.size rfl (.tmp 37) (.tmp 39) 23 3 (.int .i64 0) 8 rfl Try.underlying23 info3 rfl (by decide) (by omega) u5 x5_1 x7_2 [.int .i64 x7_2] (fun _ => True) (fun _ => False) rfl rfl ?aP (fun _ hk => hk.elim) ?aF ?aO ?aB ?aS ?aL ?_; (case aP => exact rfl); (case aB => exact BU); (case aF => exact (fun _ _ => trivial)); (case aO => exact (U HO_5.out)); (case aS => exact (below_size BU)); (case aL => have := LMc13.out; omega); intro v520 w14 ho hb hg hat; rw [← Ny519.out] at ho; have n0_ := bG BK512 hg (Kd.R_ne HO_5.out BK512.out (by decide)); have n1_ := Aside0.mk (hb); have n2_ := Aside0.mk (ho); clear BK512; try clear HB; clear HO_5; have BK512 := n0_; have HB := n1_; have HO521 := n2_; clear n0_ n1_ n2_; clear ho hb hg hat))
            repeat (go_quiet (first | ((with_reducible refine gate_builtin (b := .append) (xs := #[.tmp 37, .tmp 39]) rfl ?_); at_builtin; refine Kd.R_append (Kd.int .i64) (w0 := w) w.heap.size rfl (.tmp 37) (.tmp 39) 23 3 (.int .i64 0) 8 rfl Try.underlying23 info3 rfl (by decide) (by omega) u5 x5_1 x7_2 [.int .i64 x7_2] (fun _ => True) (fun _ => False) rfl rfl ?aP (fun _ hk => hk.elim) ?aF ?aO ?aB ?aS ?aL ?_; (case aP => exact rfl); (case aB => exact BU); (case aF => exact (fun _ _ => trivial)); (case aO => exact (U HO_5.out)); (case aS => exact (below_size BU)); (case aL => have := LMc13.out; omega); intro v520 w14 ho hb hg hat; rw [← Ny519.out] at ho; have n0_ := bG BK512 hg (Kd.R_ne HO_5.out BK512.out (by decide)); have n1_ := Aside0.mk (hb); have n2_ := Aside0.mk (ho); clear BK512; try clear HB; clear HO_5; have BK512 := n0_; have HB := n1_; have HO521 := n2_; clear n0_ n1_ n2_; clear ho hb hg hat)); try go_wp2_with (first | ((with_reducible refine gate_builtin (b := .append) (xs := #[.tmp 37, .tmp 39]) rfl ?_); at_builtin; refine Kd.R_append (Kd.int .i64) (w0 := w) w.heap.size rfl (.tmp 37) (.tmp 39) 23 3 (.int .i64 0) 8 rfl Try.underlying23 info3 rfl (by decide) (by omega) u5 x5_1 x7_2 [.int .i64 x7_2] (fun _ => True) (fun _ => False) rfl rfl ?aP (fun _ hk => hk.elim) ?aF ?aO ?aB ?aS ?aL ?_; (case aP => exact rfl); (case aB => exact BU); (case aF => exact (fun _ _ => trivial)); (case aO => exact (U HO_5.out)); (case aS => exact (below_size BU)); (case aL => have := LMc13.out; omega); intro v520 w14 ho hb hg hat; rw [← Ny519.out] at ho; have n0_ := bG BK512 hg (Kd.R_ne HO_5.out BK512.out (by decide)); have n1_ := Aside0.mk (hb); have n2_ := Aside0.mk (ho); clear BK512; try clear HB; clear HO_5; have BK512 := n0_; have HB := n1_; have HO521 := n2_; clear n0_ n1_ n2_; clear ho hb hg hat)))
            go_roundg k2
            case measure => have := HK1.out; have := HK2.out; omega
            case rel => exact ⟨(y519), (wrap64 (x6_1 + 1)), sR, H', ⟨by have := HK1.out; have := HK2.out; omega⟩, ⟨U HO521.out⟩, ⟨U BK512.out⟩, ⟨BU⟩⟩
      rw [if_neg c6] at H; have c6b0 : decide (x6_1 < (l1.length : Int)) = false := decide_eq_false c6; clear c6; obtain rfl := Option.some.inj H
      go_wp2
      repeat (go_quiet (fail); try go_wp2)
      go_ret
      exact ⟨_, eR, U HO_5.out, BU⟩

/-! ### spec_l7Mix: function 76 -/
def spec_l7Mix.l0 : Nat → List Int → List Int → Int → List Int → Int → Option (List Int)
  | 0, _, _, _, _, _ => none
  | k + 1, x0, x1, x2, x7, x8 => if x8 < (x0.length : Int) then (if 0 ≤ x8 then (if x8 < (x1.length : Int) then (if x7.length < 17592186044416 then (spec_l7Mix.l0 k x0 x1 x2 (x7 ++ [wrap64 ((rd x0 x8) + (wrap64 (x2 * (rd x1 x8))))]) (wrap64 (x8 + 1))) else (none)) else (none)) else (none)) else (some x7)
def spec_l7Mix.f (k : Nat) (l0 : List Int) (l1 : List Int) (a2 : Int) : Option (List Int) := spec_l7Mix.l0 k l0 l1 a2 (([] : List Int)) 0
theorem spec_l7Mix.mono_l : ∀ k, (∀ y0 y1 y2 y3 y4, LeO (spec_l7Mix.l0 k y0 y1 y2 y3 y4) (spec_l7Mix.l0 (k + 1) y0 y1 y2 y3 y4))
  | 0 => fun _ _ _ _ _ r h => by simp [spec_l7Mix.l0] at h
  | k + 1 => by
    have ih0 := spec_l7Mix.mono_l k
    · intro y0 y1 y2 y3 y4
      unfold spec_l7Mix.l0
      with_reducible repeat' first | exact ih0 _ _ _ _ _ | exact LeO.refl _ | exact LeO.none _ | refine LeO.ite ?_ ?_ | refine LeO.bind ?_ (fun _ => ?_)
theorem spec_l7Mix.mono : ∀ a0 a1 a2 k, LeO (spec_l7Mix.f k a0 a1 a2) (spec_l7Mix.f (k + 1) a0 a1 a2) := by
  intro a0 a1 a2 k
  have ih0 := spec_l7Mix.mono_l k
  unfold spec_l7Mix.f
  with_reducible repeat' first | exact ih0 _ _ _ _ _ | exact LeO.refl _ | exact LeO.none _ | refine LeO.ite ?_ ?_ | refine LeO.bind ?_ (fun _ => ?_)
def spec_l7Mix.T5 : Bool × List (List Nat × List Nat) := (true, [([], []), ([], []), ([], []), ([1, 2], [1, 2]), ([3], [3]), ([], []), ([], []), ([], []), ([6, 7], [6, 7]), ([8], [8]), ([5, 9], [5, 9]), ([4, 10], [4, 10]), ([11], [11]), ([0, 12], [0, 12]), ([13, 13, 0, 1, 2, 3, 4, 5, 6, 7, 8, 9, 10, 11, 12, 13], [0, 13])])
def spec_l7Mix.B5 : List Nat := [0, 0, 0, 6, 14, 0, 0, 0, 192, 448, 992, 2046, 4094, 8191, 16383]
theorem spec_l7Mix.tab5 : rtab .any (opsOf Try.f76 5) = spec_l7Mix.T5 := by kernel_rfl
theorem spec_l7Mix.bits5 : waitsOk spec_l7Mix.T5.2 spec_l7Mix.B5 = true := by kernel_rfl
set_option maxHeartbeats 8000000 in
set_option maxRecDepth 100000 in
theorem spec_l7Mix.calls (k : Nat) (A0 : Option Addr) (c0 : Nat) (l0 : List Int) (A1 : Option Addr) (c1 : Nat) (l1 : List Int) (a2 : Int) (r : List Int) (w : World) (hr0 : Kd.C (Kd.int .i64) w A0 l0.length l0) (hc0 : l0.length ≤ c0) (hr1 : Kd.C (Kd.int .i64) w A1 l1.length l1) (hc1 : l1.length ≤ c1) (h : spec_l7Mix.f k l0 l1 a2 = some r) :
    Calls Try.prog 76 #[.slice A0 l0.length c0, .slice A1 l1.length c1, .int .i64 a2] w fun e w' => ∃ v0_ : Value, e = .returned (v0_) ∧ Kd.R (Kd.int .i64) 3 w' w.heap.size (fun _ => True) v0_ r ∧ Below w.heap.size w w' := by
  have HR0 := Aside0.mk hr0; have HC0 := Aside0.mk hc0; clear hr0 hc0; have HR1 := Aside0.mk hr1; have HC1 := Aside0.mk hc1; clear hr1 hc1; have HB := Aside0.mk (Below.refl w.heap.size w); unfold spec_l7Mix.f at h; have H := h; clear h; obtain ⟨y522, hy522⟩ : ∃ y_ : List Int, y_ = (([] : List Int)) := ⟨_, rfl⟩; replace H : (spec_l7Mix.l0 k l0 l1 a2 y522 0) = some r := rH hy522 H; have Ny522 := Aside0.mk hy522; clear hy522; have H' := Aside0.mk H; clear H; go_enter Try.func76, Try.ntmps76
  go_wp2_with (first | ((with_reducible refine gate_dst (N := 9) rfl ?_); refine Kd.R_lit (Kd.int .i64) _ 3 ?hg (N := 9) ?hd (xs := ([] : List Int)) (inner := []) (ok := fun _ => True) (okp := fun _ => True) ?hr ?hp (fun _ hk => hk) trivial (Below.refl _ _) (Nat.le_refl _) (by simp) ?_; (case hd => rfl); (case hg => rfl); (case hr => first | (go_simp; done) | (go_simp; rfl)); (case hp => exact (Reps.none _ _)); intro v523 w4 ho5 hb hg_ hnew_; clear hg_ hnew_; (first | rw [← Ny522.out] at ho5 | (simp only [Int.reduceToNat] at ho5; rw [← Ny522.out] at ho5)); have HO524 := Aside0.mk (Kd.R_lower ho5 (below_size BU)); replace HB := BS hb; clear hb ho5))
  go_loopg [7, 8] k (fun kq v7 v8 w' => ∃ (x7_1 : List Int) (x8_1 : Int), v8 = .int .i64 x8_1 ∧ Aside0 (spec_l7Mix.l0 kq l0 l1 a2 x7_1 x8_1 = some r) ∧ Aside0 (kq ≤ k) ∧ Aside0 (Kd.R (Kd.int .i64) 3 w' w.heap.size (fun _ => True) v7 x7_1) ∧ Aside0 (Below w.heap.size w w'))
  case atStart => exact ⟨(y522), (0), sR, H', ⟨Nat.le_refl _⟩, ⟨U HO524.out⟩, ⟨BU⟩⟩
  case round =>
    clear H'; obtain ⟨x7_1, x8_1, rfl, HA, HK1, HO_7, HB⟩ := hrel; cases gk with
    | zero => exact absurd HA.out (by simp [spec_l7Mix.l0])
    | succ k1 =>
      have H := HA.out; clear HA; simp only [spec_l7Mix.l0] at H
      by_cases c6 : x8_1 < (l0.length : Int)
      · rw [if_pos c6] at H
        have c6b0 : decide (x8_1 < (l0.length : Int)) = true := decide_eq_true c6; clear c6; obtain ⟨c7, H⟩ := ifN H; have c7b0 : decide (0 ≤ x8_1) = true := decide_eq_true c7; clear c7; obtain ⟨c8, H⟩ := ifN H; have c8b0 : decide (x8_1 < (l1.length : Int)) = true := decide_eq_true c8; clear c8; obtain ⟨c9, H⟩ := ifN H; have LMc9 := Aside0.mk c9; clear c9; obtain ⟨y527, hy527⟩ : ∃ y_ : List Int, y_ = (x7_1 ++ [wrap64 ((rd l0 x8_1) + (wrap64 (a2 * (rd l1 x8_1))))]) := ⟨_, rfl⟩; replace H : (spec_l7Mix.l0 k1 l0 l1 a2 y527 (wrap64 (x8_1 + 1))) = some r := rH hy527 H; have Ny527 := Aside0.mk hy527; clear hy527; have H' := Aside0.mk H; clear H
        try go_wp2
        replace HO_7 := Aside0.mk (Kd.R_drew HO_7.out); replace HB := Aside0.mk (below_drew1 HB.out); have p525 : 0 ≤ (x8_1 : Int) := oD; have q525 : x8_1 < (l0.length : Int) := oD; obtain ⟨ad525, e525, hx525_0⟩ := Kd.at_int HR0.out x8_1 p525 q525; have hw525_0 := hx525_0; cases e525; replace hx525_0 := (HB.out.cell (World.block_lt_of_cell? w _ hx525_0)).trans hx525_0; replace p525 := eq_true p525; replace q525 := eq_true q525; have p526 : 0 ≤ (x8_1 : Int) := oD; have q526 : x8_1 < (l1.length : Int) := oD; obtain ⟨ad526, e526, hx526_0⟩ := Kd.at_int HR1.out x8_1 p526 q526; have hw526_0 := hx526_0; cases e526; replace hx526_0 := (HB.out.cell (World.block_lt_of_cell? w _ hx526_0)).trans hx526_0; replace p526 := eq_true p526; replace q526 := eq_true q526
        refine start_ (n := 15) (S := fun w' => w'.cell? (ad525.add (x8_1).toNat) = some (.int .i64 (rd l0 x8_1)) ∧ w'.cell? (ad526.add (x8_1).toNat) = some (.int .i64 (rd l1 x8_1))) (ds := []) #[false, false, false, false, false, false, false, false, false, false, false, false, false, false, false] (by kernel_rfl) rfl rfl ⟨((HB.out.cell (World.block_lt_of_cell? w _ hw525_0)).trans hw525_0), ((HB.out.cell (World.block_lt_of_cell? w _ hw526_0)).trans hw526_0)⟩ (fun hHeld => ?_); refine with_tabW spec_l7Mix.tab5 spec_l7Mix.bits5 (fun HT_ HW_ => ?_)
        generalize wr.drew = w10 at HO_7 HB hx525_0 hx526_0 hHeld ⊢
        refine pure_ (i := 0) (N := some 16) (v := ?_) (a' := ?_) #[true, false, false, false, false, false, false, false, false, false, false, false, false, false, false] rfl rfl (any_of HT_.out (by kernel_rfl)) (fun _ _ _ h => h) (Or.inl ⟨by rfl, ?_⟩) ?_ ?_
        rotate_left
        · intro w'
          go_simp
          with_reducible rfl
        rotate_left
        · simp only [Act.put, List.setIfInBounds_toArray, List.set_cons_zero, List.set_cons_succ, i64_w, i32_w]
          rfl
        refine pure_ (i := 1) (N := some 17) (v := ?_) (a' := ?_) #[true, true, false, false, false, false, false, false, false, false, false, false, false, false, false] rfl rfl (any_of HT_.out (by kernel_rfl)) (fun _ _ _ h => h) (Or.inl ⟨by rfl, ?_⟩) ?_ ?_
        rotate_left
        · intro w'
          go_simp
          with_reducible rfl
        rotate_left
        · simp only [Act.put, List.setIfInBounds_toArray, List.set_cons_zero, List.set_cons_succ, i64_w, i32_w]
          rfl
        refine pure_ (i := 2) (N := some 18) (v := ?_) (a' := ?_) #[true, true, true, false, false, false, false, false, false, false, false, false, false, false, false] rfl rfl (any_of HT_.out (by kernel_rfl)) (fun _ _ _ h => h) (Or.inl ⟨by rfl, ?_⟩) ?_ ?_
        rotate_left
        · intro w'
          go_simp
          with_reducible rfl
        rotate_left
        · simp only [Act.put, List.setIfInBounds_toArray, List.set_cons_zero, List.set_cons_succ, i64_w, i32_w]
          rfl
        refine pure_ (i := 3) (N := some 19) (v := ?_) (a' := ?_) #[true, true, true, true, false, false, false, false, false, false, false, false, false, false, false] rfl rfl (any_of HT_.out (by kernel_rfl)) (fun _ _ _ h => h) (Or.inl ⟨by rfl, ?_⟩) ?_ ?_
        rotate_left
        · intro w'
          go_simp
          with_reducible rfl
        rotate_left
        · simp only [Act.put, List.setIfInBounds_toArray, List.set_cons_zero, List.set_cons_succ, i64_w, i32_w]
          rfl
        refine pure_ (i := 5) (N := some 21) (v := ?_) (a' := ?_) #[true, true, true, true, false, true, false, false, false, false, false, false, false, false, false] rfl rfl (any_of HT_.out (by kernel_rfl)) (fun _ _ _ h => h) (Or.inl ⟨by rfl, ?_⟩) ?_ ?_
        rotate_left
        · intro w'
          go_simp
          with_reducible rfl
        rotate_left
        · simp only [Act.put, List.setIfInBounds_toArray, List.set_cons_zero, List.set_cons_succ, i64_w, i32_w]
          rfl
        refine pure_ (i := 6) (N := some 22) (v := ?_) (a' := ?_) #[true, true, true, true, false, true, true, false, false, false, false, false, false, false, false] rfl rfl (any_of HT_.out (by kernel_rfl)) (fun _ _ _ h => h) (Or.inl ⟨by rfl, ?_⟩) ?_ ?_
        rotate_left
        · intro w'
          go_simp
          with_reducible rfl
        rotate_left
        · simp only [Act.put, List.setIfInBounds_toArray, List.set_cons_zero, List.set_cons_succ, i64_w, i32_w]
          rfl
        refine pure_ (i := 7) (N := some 23) (v := ?_) (a' := ?_) #[true, true, true, true, false, true, true, true, false, false, false, false, false, false, false] rfl rfl (any_of HT_.out (by kernel_rfl)) (fun _ _ _ h => h) (Or.inl ⟨by rfl, ?_⟩) ?_ ?_
        rotate_left
        · intro w'
          go_simp
          with_reducible rfl
        rotate_left
        · simp only [Act.put, List.setIfInBounds_toArray, List.set_cons_zero, List.set_cons_succ, i64_w, i32_w]
          rfl
        refine pure_ (i := 8) (N := some 24) (v := ?_) (a' := ?_) #[true, true, true, true, false, true, true, true, true, false, false, false, false, false, false] rfl rfl (any_of HT_.out (by kernel_rfl)) (fun _ _ _ h => h) (Or.inl ⟨by rfl, ?_⟩) ?_ ?_
        rotate_left
        · intro w'
          go_simp
          with_reducible rfl
        rotate_left
        · simp only [Act.put, List.setIfInBounds_toArray, List.set_cons_zero, List.set_cons_succ, i64_w, i32_w]
          rfl
        refine take_ (i := 4) (N := some 20) (v := ?_) (a' := ?_) #[true, true, true, true, true, true, true, true, true, false, false, false, false, false, false] rfl rfl (take_ofW HT_.out HW_.out (by kernel_rfl)) (fun _ _ _ h => h) (Or.inl ⟨by rfl, ?_⟩) hHeld ?_ ?_
        rotate_left
        · rintro w' ⟨s0, s1⟩
          go_simp
          with_reducible rfl
        rotate_left
        · simp only [Act.put, List.setIfInBounds_toArray, List.set_cons_zero, List.set_cons_succ, i64_w, i32_w]
          rfl
        refine take_ (i := 9) (N := some 25) (v := ?_) (a' := ?_) #[true, true, true, true, true, true, true, true, true, true, false, false, false, false, false] rfl rfl (take_ofW HT_.out HW_.out (by kernel_rfl)) (fun _ _ _ h => h) (Or.inl ⟨by rfl, ?_⟩) hHeld ?_ ?_
        rotate_left
        · rintro w' ⟨s0, s1⟩
          go_simp
          with_reducible rfl
        rotate_left
        · simp only [Act.put, List.setIfInBounds_toArray, List.set_cons_zero, List.set_cons_succ, i64_w, i32_w]
          rfl
        refine pure_ (i := 10) (N := some 26) (v := ?_) (a' := ?_) #[true, true, true, true, true, true, true, true, true, true, true, false, false, false, false] rfl rfl (any_of HT_.out (by kernel_rfl)) (fun _ _ _ h => h) (Or.inl ⟨by rfl, ?_⟩) ?_ ?_
        rotate_left
        · intro w'
          go_simp
          with_reducible rfl
        rotate_left
        · simp only [Act.put, List.setIfInBounds_toArray, List.set_cons_zero, List.set_cons_succ, i64_w, i32_w]
          rfl
        refine pure_ (i := 11) (N := some 27) (v := ?_) (a' := ?_) #[true, true, true, true, true, true, true, true, true, true, true, true, false, false, false] rfl rfl (any_of HT_.out (by kernel_rfl)) (fun _ _ _ h => h) (Or.inl ⟨by rfl, ?_⟩) ?_ ?_
        rotate_left
        · intro w'
          go_simp
          with_reducible rfl
        rotate_left
        · simp only [Act.put, List.setIfInBounds_toArray, List.set_cons_zero, List.set_cons_succ, i64_w, i32_w]
          rfl
        refine one_ (i := 12) (N := some 28) #[true, true, true, true, true, true, true, true, true, true, true, true, true, false, false] rfl rfl (one_of HT_.out (by kernel_rfl)) (by decide) (fun K hK => ?_)
        refine value_ (w1 := ?_) (v := ?_) (by rfl) rfl ?_ ?_
        rotate_left 2
        · go_simp
          constructor
          · rfl
          rfl
        refine hK.out _ _ ⟨(World.cell?_alloc_lt _ _ _ (World.block_lt_of_cell? _ _ (((HB.out.cell (World.block_lt_of_cell? w _ hw525_0)).trans hw525_0)))).trans (((HB.out.cell (World.block_lt_of_cell? w _ hw525_0)).trans hw525_0)), (World.cell?_alloc_lt _ _ _ (World.block_lt_of_cell? _ _ (((HB.out.cell (World.block_lt_of_cell? w _ hw526_0)).trans hw526_0)))).trans (((HB.out.cell (World.block_lt_of_cell? w _ hw526_0)).trans hw526_0))⟩ (fun hHeld => ?_)
        clear hK K
        refine norm_ (a' := ?_) ?_ ?_
        rotate_left
        · show Act.put _ (some 28) _ = _
          simp only [Act.put, List.setIfInBounds_toArray, List.set_cons_zero, List.set_cons_succ, i64_w, i32_w]
          rfl
        refine one_ (i := 13) (N := some 29) #[true, true, true, true, true, true, true, true, true, true, true, true, true, true, false] rfl rfl (one_of HT_.out (by kernel_rfl)) (by decide) (fun K hK => ?_)
        refine Kd.R_append_step (Kd.int .i64) (w0 := w) w.heap.size (by rfl) (.tmp 16) (.tmp 28) 23 3 (.int .i64 0) 8 rfl Try.underlying23 info3 rfl (by decide) (by omega) u7 x7_1 (wrap64 ((rd l0 x8_1) + (wrap64 (a2 * (rd l1 x8_1))))) [.int .i64 (wrap64 ((rd l0 x8_1) + (wrap64 (a2 * (rd l1 x8_1)))))] (fun _ => True) (fun _ => False) rfl rfl ?aP (fun _ hk => hk.elim) ?aF ?aO ?aB ?aS ?aL ?_
        (case aP => exact rfl)
        (case aB => exact BU)
        (case aF => exact (fun _ _ => trivial))
        (case aO => exact (U HO_7.out))
        (case aS => exact (below_size BU))
        (case aL => have := LMc9.out; omega)
        intro v528 w11 ho hb hg hat; rw [← Ny527.out] at ho; have n0_ := Aside0.mk (hb); have n1_ := Aside0.mk (ho); (try clear HB); clear HO_7; have HB := n0_; have HO529 := n1_; clear n0_ n1_ ho hb hg hat
        refine hK.out _ _ ⟨((HB.out.cell (World.block_lt_of_cell? w _ hw525_0)).trans hw525_0), ((HB.out.cell (World.block_lt_of_cell? w _ hw526_0)).trans hw526_0)⟩ (fun hHeld => ?_)
        clear hK K
        refine norm_ (a' := ?_) ?_ ?_
        rotate_left
        · show Act.put _ (some 29) _ = _
          simp only [Act.put, List.setIfInBounds_toArray, List.set_cons_zero, List.set_cons_succ, i64_w, i32_w]
          rfl
        refine pure_ (i := 14) (N := some 7) (v := ?_) (a' := ?_) #[true, true, true, true, true, true, true, true, true, true, true, true, true, true, true] rfl rfl (any_of HT_.out (by kernel_rfl)) (fun _ _ _ h => h) (Or.inl ⟨by rfl, ?_⟩) ?_ ?_
        rotate_left
        · intro w'
          go_simp
          with_reducible rfl
        rotate_left
        · simp only [Act.put, List.setIfInBounds_toArray, List.set_cons_zero, List.set_cons_succ, i64_w, i32_w]
          rfl
        refine done_ (done_of HT_.out (by kernel_rfl)) ?_
        try go_wp2
        go_roundg k1
        case measure => have := HK1.out; omega
        case rel => exact ⟨(y527), (wrap64 (x8_1 + 1)), sR, H', ⟨by have := HK1.out; omega⟩, ⟨U HO529.out⟩, ⟨BU⟩⟩
      rw [if_neg c6] at H; have c6b0 : decide (x8_1 < (l0.length : Int)) = false := decide_eq_false c6; clear c6; obtain rfl := Option.some.inj H
      go_wp2
      go_ret
      exact ⟨_, eR, U HO_7.out, BU⟩

/-! ### spec_l5Some: function 77 -/
def spec_l5Some.l0 : Nat → List Int → Int → Option (Bool)
  | 0, _, _ => none
  | k + 1, x0, x3 => if x3 < (x0.length : Int) then (if 0 ≤ x3 then (if (rd x0 x3) = 0 then (spec_l5Some.l0 k x0 (wrap64 (x3 + 1))) else (some true)) else (none)) else (some false)
def spec_l5Some.f (k : Nat) (l0 : List Int) : Option (Bool) := spec_l5Some.l0 k l0 0
theorem spec_l5Some.mono_l : ∀ k, (∀ y0 y1, LeO (spec_l5Some.l0 k y0 y1) (spec_l5Some.l0 (k + 1) y0 y1))
  | 0 => fun _ _ r h => by simp [spec_l5Some.l0] at h
  | k + 1 => by
    have ih0 := spec_l5Some.mono_l k
    · intro y0 y1
      unfold spec_l5Some.l0
      with_reducible repeat' first | exact ih0 _ _ | exact LeO.refl _ | exact LeO.none _ | refine LeO.ite ?_ ?_ | refine LeO.bind ?_ (fun _ => ?_)
theorem spec_l5Some.mono : ∀ a0 k, LeO (spec_l5Some.f k a0) (spec_l5Some.f (k + 1) a0) := by
  intro a0 k
  have ih0 := spec_l5Some.mono_l k
  unfold spec_l5Some.f
  with_reducible repeat' first | exact ih0 _ _ | exact LeO.refl _ | exact LeO.none _ | refine LeO.ite ?_ ?_ | refine LeO.bind ?_ (fun _ => ?_)
set_option maxHeartbeats 8000000 in
set_option maxRecDepth 100000 in
theorem spec_l5Some.calls (k : Nat) (A0 : Option Addr) (c0 : Nat) (l0 : List Int) (r : Bool) (w : World) (hr0 : Kd.C (Kd.int .i64) w A0 l0.length l0) (hc0 : l0.length ≤ c0) (h : spec_l5Some.f k l0 = some r) :
    Calls Try.prog 77 #[.slice A0 l0.length c0] w fun e w' => e = .returned (.bool r) ∧ Drawn0 w w' := by
  have HR0 := Aside0.mk hr0; have HC0 := Aside0.mk hc0; clear hr0 hc0; unfold spec_l5Some.f at h; have H := h; clear h; have H' := Aside0.mk H; clear H; go_enter Try.func77, Try.ntmps77
  go_wp2
  go_loopg [3] k (fun kq v3 w' => ∃ (x3_1 : Int), v3 = .int .i64 x3_1 ∧ Aside0 (spec_l5Some.l0 kq l0 x3_1 = some r) ∧ Aside0 (kq ≤ k) ∧ Drawn0 w w')
  case atStart => exact ⟨(0), sR, H', ⟨Nat.le_refl _⟩, by repeat (first | exact Drawn0.refl _ | apply Drawn0.step)⟩
  case round =>
    clear H'; obtain ⟨x3_1, rfl, HA, HK1, ⟨m1, rfl⟩⟩ := hrel; cases gk with
    | zero => exact absurd HA.out (by simp [spec_l5Some.l0])
    | succ k1 =>
      have H := HA.out; clear HA; simp only [spec_l5Some.l0] at H
      by_cases c2 : x3_1 < (l0.length : Int)
      · rw [if_pos c2] at H
        have c2b0 : decide (x3_1 < (l0.length : Int)) = true := decide_eq_true c2; clear c2; obtain ⟨c3, H⟩ := ifN H; have c3b0 : decide (0 ≤ x3_1) = true := decide_eq_true c3; clear c3
        by_cases c4 : (rd l0 x3_1) = 0
        · rw [if_pos c4] at H
          have c4b0 : ((rd l0 x3_1) == 0) = true := beq_iff_eq.mpr c4; have c4b1 : ((rd l0 x3_1) != 0) = false := bne_eq_false_iff_eq.mpr c4; clear c4; have H' := Aside0.mk H; clear H; have p530 : 0 ≤ (x3_1 : Int) := oD; have q530 : x3_1 < (l0.length : Int) := oD; obtain ⟨ad530, e530, hx530_0⟩ := Kd.at_int HR0.out x3_1 p530 q530; cases e530; replace p530 := eq_true p530; replace q530 := eq_true q530
          go_wp2
          go_roundg k1
          case measure => have := HK1.out; omega
          case rel => exact ⟨(wrap64 (x3_1 + 1)), sR, H', ⟨by have := HK1.out; omega⟩, by repeat (first | exact Drawn0.refl _ | apply Drawn0.step)⟩
        rw [if_neg c4] at H; have c4b0 : ((rd l0 x3_1) == 0) = false := beq_eq_false_iff_ne.mpr c4; have c4b1 : ((rd l0 x3_1) != 0) = true := bne_iff_ne.mpr c4; obtain rfl := Option.some.inj H; have p530 : 0 ≤ (x3_1 : Int) := oD; have q530 : x3_1 < (l0.length : Int) := oD; obtain ⟨ad530, e530, hx530_0⟩ := Kd.at_int HR0.out x3_1 p530 q530; cases e530; replace p530 := eq_true p530; replace q530 := eq_true q530
        go_wp2
        go_ret
        exact ⟨by first | rfl | (simp; done) | (simp [*]; done), by repeat (first | exact Drawn0.refl _ | apply Drawn0.step)⟩
      rw [if_neg c2] at H; have c2b0 : decide (x3_1 < (l0.length : Int)) = false := decide_eq_false c2; clear c2; obtain rfl := Option.some.inj H
      go_wp2
      go_ret
      exact ⟨by first | rfl | (simp; done) | (simp [*]; done), by repeat (first | exact Drawn0.refl _ | apply Drawn0.step)⟩

end Go.Proofs.Ytnbeeogmaamgdaa.PFnSplitMove
