-- Written by a program of this session (wip/print2.py): the functions that the law reaches, plain, and the walks.
import Derived.Test.YtnbeeogmaamgdaaPFnOnx0
namespace Go.Proofs.Ytnbeeogmaamgdaa.PFnOn
open Go.RowKit Go.Proofs.YtnbeeogmaamgdaaW.PrintWords Go.Proofs.YtnbeeogmaamgdaaW.PrintLast Go.Proofs.YtnbeeogmaamgdaaW.PrintMore
attribute [local go_sem] max2_int min2_int max_two min_two max_three min_three max_four min_four   -- for this text's walks alone
set_option linter.unusedVariables false
set_option linter.unusedSimpArgs false

/-! ### spec_l7On: function 69 -/
mutual
def spec_l7On.l0 : Nat → List Int → List Int → Int → List (List Int) → Int → Option (List Int)
  | 0, _, _, _, _, _ => none
  | k + 1, x1, x5, x6, x403000, x403001 => if x6 < (x1.length : Int) then (spec_l7On.l1 k x1 x5 x6 0 0 x403000 x403001) else (some x5)
def spec_l7On.l1 : Nat → List Int → List Int → Int → Int → Int → List (List Int) → Int → Option (List Int)
  | 0, _, _, _, _, _, _, _ => none
  | k + 1, x1, x5, x6, x7, x8, x403000, x403001 => if x8 < (x1.length : Int) then (if 0 ≤ x6 then (if x6 < (x403000.length : Int) then (if 0 ≤ x8 then (if x8 < ((rd_L2 x403000 x6).length : Int) then (spec_l7On.l1 k x1 x5 x6 (wrap64 (x7 + (wrap64 ((rd (rd_L2 x403000 x6) x8) * (rd x1 x8))))) (wrap64 (x8 + 1)) x403000 x403001) else (none)) else (none)) else (none)) else (none)) else (if x5.length < 17592186044416 then (spec_l7On.l0 k x1 (x5 ++ [x7]) (wrap64 (x6 + 1)) x403000 x403001) else (none))
end
def spec_l7On.f (k : Nat) (l0_0 : List (List Int)) (a0_1 : Int) (l1 : List Int) : Option (List Int) := spec_l7On.l0 k l1 (([] : List Int)) 0 l0_0 a0_1
theorem spec_l7On.mono_l : ∀ k, (∀ y0 y1 y2 y3 y4, LeO (spec_l7On.l0 k y0 y1 y2 y3 y4) (spec_l7On.l0 (k + 1) y0 y1 y2 y3 y4)) ∧ (∀ y0 y1 y2 y3 y4 y5 y6, LeO (spec_l7On.l1 k y0 y1 y2 y3 y4 y5 y6) (spec_l7On.l1 (k + 1) y0 y1 y2 y3 y4 y5 y6))
  | 0 => ⟨fun _ _ _ _ _ r h => by simp [spec_l7On.l0] at h, fun _ _ _ _ _ _ _ r h => by simp [spec_l7On.l1] at h⟩
  | k + 1 => by
    obtain ⟨ih0, ih1⟩ := spec_l7On.mono_l k
    refine ⟨?_, ?_⟩ <;> intros <;> (first | unfold spec_l7On.l0 | unfold spec_l7On.l1) <;> (repeat' first
      | (with_reducible exact ih0 _ _ _ _ _)
      | (with_reducible exact ih1 _ _ _ _ _ _ _)
      | (with_reducible exact LeO.refl _)
      | (with_reducible exact LeO.none _)
      | (with_reducible refine LeO.ite ?_ ?_)
      | (with_reducible refine LeO.bind ?_ (fun _ => ?_))
      | exact ih0 _ _ _ _ _
      | exact ih1 _ _ _ _ _ _ _
      | exact LeO.none _
      | refine LeO.ite ?_ ?_
      | refine LeO.bind ?_ (fun _ => ?_))
theorem spec_l7On.mono : ∀ a0 a1 a2 k, LeO (spec_l7On.f k a0 a1 a2) (spec_l7On.f (k + 1) a0 a1 a2) := by
  intro a0 a1 a2 k
  obtain ⟨ih0, ih1⟩ := spec_l7On.mono_l k
  unfold spec_l7On.f
  repeat' first
      | (with_reducible exact ih0 _ _ _ _ _)
      | (with_reducible exact ih1 _ _ _ _ _ _ _)
      | (with_reducible exact LeO.refl _)
      | (with_reducible exact LeO.none _)
      | (with_reducible refine LeO.ite ?_ ?_)
      | (with_reducible refine LeO.bind ?_ (fun _ => ?_))
      | exact ih0 _ _ _ _ _
      | exact ih1 _ _ _ _ _ _ _
      | exact LeO.none _
      | refine LeO.ite ?_ ?_
      | refine LeO.bind ?_ (fun _ => ?_)
set_option maxHeartbeats 8000000 in
set_option maxRecDepth 100000 in
theorem spec_l7On.calls (k : Nat) (A0_0 : Option Addr) (c0_0 : Nat) (l0_0 : List (List Int)) (a0_1 : Int) (A1 : Option Addr) (c1 : Nat) (l1 : List Int) (r : List Int) (w : World) (hr0_0 : Kd.C (Kd.slice 3 (Kd.int .i64)) w A0_0 l0_0.length l0_0) (hc0_0 : l0_0.length ≤ c0_0) (hr1 : Kd.C (Kd.int .i64) w A1 l1.length l1) (hc1 : l1.length ≤ c1) (h : spec_l7On.f k l0_0 a0_1 l1 = some r) :
    Calls Try.prog 69 #[.agg #[.slice A0_0 l0_0.length c0_0, .int .i64 a0_1], .slice A1 l1.length c1] w fun e w' => ∃ v0_ : Value, e = .returned (v0_) ∧ Kd.R (Kd.int .i64) 3 w' w.heap.size (fun _ => True) v0_ r ∧ Below w.heap.size w w' := by
  have hu27 := Try.underlying27; have HR0_0 := Aside0.mk hr0_0; have HC0_0 := Aside0.mk hc0_0; clear hr0_0 hc0_0; have HR1 := Aside0.mk hr1; have HC1 := Aside0.mk hc1; clear hr1 hc1; have HB := Aside0.mk (Below.refl w.heap.size w); unfold spec_l7On.f at h; have H := h; clear h; obtain ⟨y403, hy403⟩ : ∃ y_ : List Int, y_ = (([] : List Int)) := ⟨_, rfl⟩; replace H : (spec_l7On.l0 k l1 y403 0 l0_0 a0_1) = some r := rH hy403 H; have Ny403 := Aside0.mk hy403; clear hy403; have H' := Aside0.mk H; clear H; go_enter Try.func69, Try.ntmps69
  go_wp2_with (first | ((with_reducible refine gate_dst (N := 2) rfl ?_); refine boxE (N := 2) (cs := #[.slice A0_0 l0_0.length c0_0, .int .i64 a0_1]) (t := 27) ?_; intro gb402 hg w3 hbox hb; have BK402 := Aside0.mk (hbox); have GW402 := GS w hg; have GE402 := GS w hg; replace HB := BS hb; clear hb hbox hg) | ((with_reducible refine gate_dst (N := 9) rfl ?_); refine Kd.R_lit (Kd.int .i64) _ 3 ?hg (N := 9) ?hd (xs := ([] : List Int)) (inner := []) (ok := fun _ => True) (okp := fun _ => True) ?hr ?hp (fun _ hk => hk) trivial (Below.refl _ _) (Nat.le_refl _) (by simp) ?_; (case hd => rfl); (case hg => rfl); (case hr => first | (go_simp; done) | (go_simp; rfl)); (case hp => exact (Reps.none _ _)); intro v404 w4 ho5 hb hg_ hnew_; clear hg_ hnew_; (first | rw [← Ny403.out] at ho5 | (simp only [Int.reduceToNat] at ho5; rw [← Ny403.out] at ho5)); have HO405 := Aside0.mk (Kd.R_lower ho5 (below_size BU)); replace BK402 := bB BK402 hb; replace HB := BS hb; clear hb ho5))
  repeat (go_quiet (first | ((with_reducible refine gate_dst (N := 2) rfl ?_); refine boxE (N := 2) (cs := #[.slice A0_0 l0_0.length c0_0, .int .i64 a0_1]) (t := 27) ?_; intro gb402 hg w3 hbox hb; have BK402 := Aside0.mk (hbox); have GW402 := GS w hg; have GE402 := GS w hg; replace HB := BS hb; clear hb hbox hg) | ((with_reducible refine gate_dst (N := 9) rfl ?_); refine Kd.R_lit (Kd.int .i64) _ 3 ?hg (N := 9) ?hd (xs := ([] : List Int)) (inner := []) (ok := fun _ => True) (okp := fun _ => True) ?hr ?hp (fun _ hk => hk) trivial (Below.refl _ _) (Nat.le_refl _) (by simp) ?_; (case hd => rfl); (case hg => rfl); (case hr => first | (go_simp; done) | (go_simp; rfl)); (case hp => exact (Reps.none _ _)); intro v404 w4 ho5 hb hg_ hnew_; clear hg_ hnew_; (first | rw [← Ny403.out] at ho5 | (simp only [Int.reduceToNat] at ho5; rw [← Ny403.out] at ho5)); have HO405 := Aside0.mk (Kd.R_lower ho5 (below_size BU)); replace BK402 := bB BK402 hb; replace HB := BS hb; clear hb ho5)); try go_wp2_with (first | ((with_reducible refine gate_dst (N := 2) rfl ?_); refine boxE (N := 2) (cs := #[.slice A0_0 l0_0.length c0_0, .int .i64 a0_1]) (t := 27) ?_; intro gb402 hg w3 hbox hb; have BK402 := Aside0.mk (hbox); have GW402 := GS w hg; have GE402 := GS w hg; replace HB := BS hb; clear hb hbox hg) | ((with_reducible refine gate_dst (N := 9) rfl ?_); refine Kd.R_lit (Kd.int .i64) _ 3 ?hg (N := 9) ?hd (xs := ([] : List Int)) (inner := []) (ok := fun _ => True) (okp := fun _ => True) ?hr ?hp (fun _ hk => hk) trivial (Below.refl _ _) (Nat.le_refl _) (by simp) ?_; (case hd => rfl); (case hg => rfl); (case hr => first | (go_simp; done) | (go_simp; rfl)); (case hp => exact (Reps.none _ _)); intro v404 w4 ho5 hb hg_ hnew_; clear hg_ hnew_; (first | rw [← Ny403.out] at ho5 | (simp only [Int.reduceToNat] at ho5; rw [← Ny403.out] at ho5)); have HO405 := Aside0.mk (Kd.R_lower ho5 (below_size BU)); replace BK402 := bB BK402 hb; replace HB := BS hb; clear hb ho5)))
  go_loopg [5, 6] k (fun kq v5 v6 w' => ∃ (x5_1 : List Int) (x6_1 : Int), v6 = .int .i64 x6_1 ∧ Aside0 (spec_l7On.l0 kq l1 x5_1 x6_1 l0_0 a0_1 = some r) ∧ Aside0 (kq ≤ k) ∧ Aside0 (Kd.R (Kd.int .i64) 3 w' w.heap.size (fun _ => True) v5 x5_1) ∧ Aside0 (w'.heap[gb402]? = some (.cells #[(.slice A0_0 l0_0.length c0_0), .int .i64 a0_1] 27 (0, 0))) ∧ Aside0 (Below w.heap.size w w'))
  case atStart => exact ⟨(y403), (0), sR, H', ⟨Nat.le_refl _⟩, ⟨U HO405.out⟩, ⟨U BK402.out⟩, ⟨BU⟩⟩
  case round =>
    clear H'; obtain ⟨x5_1, x6_1, rfl, HA, HK1, HO_5, BK402, HB⟩ := hrel; cases gk with
    | zero => exact absurd HA.out (by simp [spec_l7On.l0])
    | succ k1 =>
      have H := HA.out; clear HA; simp only [spec_l7On.l0] at H
      by_cases c6 : x6_1 < (l1.length : Int)
      · rw [if_pos c6] at H
        have c6b0 : decide (x6_1 < (l1.length : Int)) = true := decide_eq_true c6; clear c6; have H' := Aside0.mk H; clear H
        go_wp2
        repeat (go_quiet (fail); try go_wp2)
        go_loopg [7, 8] k1 (fun kq v7 v8 w' => ∃ (x7_2 : Int) (x8_2 : Int), v7 = .int .i64 x7_2 ∧ v8 = .int .i64 x8_2 ∧ Aside0 (spec_l7On.l1 kq l1 x5_1 x6_1 x7_2 x8_2 l0_0 a0_1 = some r) ∧ Aside0 (kq ≤ k1) ∧ Aside0 (Kd.R (Kd.int .i64) 3 w' w.heap.size (fun _ => True) u5 x5_1) ∧ Aside0 (w'.heap[gb402]? = some (.cells #[(.slice A0_0 l0_0.length c0_0), .int .i64 a0_1] 27 (0, 0))) ∧ Aside0 (Below w.heap.size w w'))
        case atStart => exact ⟨(0), (0), sR, sR, H', ⟨Nat.le_refl _⟩, ⟨U HO_5.out⟩, ⟨U BK402.out⟩, ⟨BU⟩⟩
        case round =>
          clear H'; (try clear c6); (try clear c6b0); obtain ⟨x7_2, x8_2, rfl, rfl, HA, HK2, HO_5, BK402, HB⟩ := hrel; cases gk with
          | zero => exact absurd HA.out (by simp [spec_l7On.l1])
          | succ k2 =>
            have H := HA.out; clear HA; simp only [spec_l7On.l1] at H
            by_cases c7 : x8_2 < (l1.length : Int)
            · rw [if_pos c7] at H
              have c7b0 : decide (x8_2 < (l1.length : Int)) = true := decide_eq_true c7; clear c7; obtain ⟨c8, H⟩ := ifN H; have c8b0 : decide (0 ≤ x6_1) = true := decide_eq_true c8; clear c8; obtain ⟨c9, H⟩ := ifN H; have c9b0 : decide (x6_1 < (l0_0.length : Int)) = true := decide_eq_true c9; clear c9; obtain ⟨c10, H⟩ := ifN H; have c10b0 : decide (0 ≤ x8_2) = true := decide_eq_true c10; clear c10; obtain ⟨c11, H⟩ := ifN H; have c11b0 : decide (x8_2 < ((rd_L2 l0_0 x6_1).length : Int)) = true := decide_eq_true c11; clear c11; have H' := Aside0.mk H; clear H; obtain ⟨hcz12_0, hcz12_1, hfz12_0, hfz12_1⟩ := bcf BK402; have p406 : 0 ≤ (x6_1 : Int) := oD; have q406 : x6_1 < (l0_0.length : Int) := oD; obtain ⟨ad406, A406_0, c406_0, e406, hx406_0, hl406_0, hi406_0⟩ := at_L2 HR0_0.out x6_1 p406 q406; cases e406; replace hx406_0 := (HB.out.cell (World.block_lt_of_cell? w _ hx406_0)).trans hx406_0; have HR406_0 := Aside0.mk hi406_0; have HC406_0 := Aside0.mk hl406_0; clear hi406_0 hl406_0; replace p406 := eq_true p406; replace q406 := eq_true q406; have p407 : 0 ≤ (x8_2 : Int) := oD; have q407 : x8_2 < ((rd_L2 l0_0 x6_1).length : Int) := oD; obtain ⟨ad407, e407, hx407_0⟩ := Kd.at_int HR406_0.out x8_2 p407 q407; cases e407; replace hx407_0 := (HB.out.cell (World.block_lt_of_cell? w _ hx407_0)).trans hx407_0; replace p407 := eq_true p407; replace q407 := eq_true q407; have p408 : 0 ≤ (x8_2 : Int) := oD; have q408 : x8_2 < (l1.length : Int) := oD; obtain ⟨ad408, e408, hx408_0⟩ := Kd.at_int HR1.out x8_2 p408 q408; cases e408; replace hx408_0 := (HB.out.cell (World.block_lt_of_cell? w _ hx408_0)).trans hx408_0; replace p408 := eq_true p408; replace q408 := eq_true q408
              go_wp2
              repeat (go_quiet (fail); try go_wp2)
              go_roundg k2
              case measure => have := HK1.out; have := HK2.out; omega
              case rel => exact ⟨(wrap64 (x7_2 + (wrap64 ((rd (rd_L2 l0_0 x6_1) x8_2) * (rd l1 x8_2))))), (wrap64 (x8_2 + 1)), sR, sR, H', ⟨by have := HK1.out; have := HK2.out; omega⟩, ⟨U HO_5.out⟩, ⟨U BK402.out⟩, ⟨BU⟩⟩
            rw [if_neg c7] at H; have c7b0 : decide (x8_2 < (l1.length : Int)) = false := decide_eq_false c7; clear c7; obtain ⟨c13, H⟩ := ifN H; have LMc13 := Aside0.mk c13; clear c13; obtain ⟨y409, hy409⟩ : ∃ y_ : List Int, y_ = (x5_1 ++ [x7_2]) := ⟨_, rfl⟩; replace H : (spec_l7On.l0 k2 l1 y409 (wrap64 (x6_1 + 1)) l0_0 a0_1) = some r := rH hy409 H; have Ny409 := Aside0.mk hy409; clear hy409; have H' := Aside0.mk H; clear H
            go_wp2_with (first | ((with_reducible refine gate_builtin (b := .append) (xs := #[.tmp 37, .tmp 39]) rfl ?_); at_builtin; refine Kd.R_append (Kd.int .i64) (w0 := w) w.heap.size rfl (.tmp 37) (.tmp 39) 23 3 (.int .i64 0) 8 rfl Try.underlying23 info3 rfl (by decide) (by omega) u5 x5_1 x7_2 [.int .i64 x7_2] (fun _ => True) (fun _ => False) rfl rfl ?aP (fun _ hk => hk.elim) ?aF ?aO ?aB ?aS ?aL ?_; (case aP => exact rfl); (case aB => exact BU); (case aF => exact (fun _ _ => trivial)); (case aO => exact (U HO_5.out)); (case aS => exact (below_size BU)); (case aL => have := LMc13.out; omega); intro v410 w14 ho hb hg hat; rw [← Ny409.out] at ho; have n0_ := bG BK402 hg (Kd.R_ne HO_5.out BK402.out (by decide)); have n1_ := Aside0.mk (hb); have n2_ := Aside0.mk (ho); clear BK402; try clear HB; clear HO_5; have BK402 := n0_; have HB := n1_; have HO411 := n2_; clear n0_ n1_ n2_; clear ho hb hg hat))
            repeat (go_quiet (first | ((with_reducible refine gate_builtin (b := .append) (xs := #[.tmp 37, .tmp 39]) rfl ?_); at_builtin; refine Kd.R_append (Kd.int .i64) (w0 := w) w.heap.size rfl (.tmp 37) (.tmp 39) 23 3 (.int .i64 0) 8 rfl Try.underlying23 info3 rfl (by decide) (by omega) u5 x5_1 x7_2 [.int .i64 x7_2] (fun _ => True) (fun _ => False) rfl rfl ?aP (fun _ hk => hk.elim) ?aF ?aO ?aB ?aS ?aL ?_; (case aP => exact rfl); (case aB => exact BU); (case aF => exact (fun _ _ => trivial)); (case aO => exact (U HO_5.out)); (case aS => exact (below_size BU)); (case aL => have := LMc13.out; omega); intro v410 w14 ho hb hg hat; rw [← Ny409.out] at ho; have n0_ := bG BK402 hg (Kd.R_ne HO_5.out BK402.out (by decide)); have n1_ := Aside0.mk (hb); have n2_ := Aside0.mk (ho); clear BK402; try clear HB; clear HO_5; have BK402 := n0_; have HB := n1_; have HO411 := n2_; clear n0_ n1_ n2_; clear ho hb hg hat)); try go_wp2_with (first | ((with_reducible refine gate_builtin (b := .append) (xs := #[.tmp 37, .tmp 39]) rfl ?_); at_builtin; refine Kd.R_append (Kd.int .i64) (w0 := w) w.heap.size rfl (.tmp 37) (.tmp 39) 23 3 (.int .i64 0) 8 rfl Try.underlying23 info3 rfl (by decide) (by omega) u5 x5_1 x7_2 [.int .i64 x7_2] (fun _ => True) (fun _ => False) rfl rfl ?aP (fun _ hk => hk.elim) ?aF ?aO ?aB ?aS ?aL ?_; (case aP => exact rfl); (case aB => exact BU); (case aF => exact (fun _ _ => trivial)); (case aO => exact (U HO_5.out)); (case aS => exact (below_size BU)); (case aL => have := LMc13.out; omega); intro v410 w14 ho hb hg hat; rw [← Ny409.out] at ho; have n0_ := bG BK402 hg (Kd.R_ne HO_5.out BK402.out (by decide)); have n1_ := Aside0.mk (hb); have n2_ := Aside0.mk (ho); clear BK402; try clear HB; clear HO_5; have BK402 := n0_; have HB := n1_; have HO411 := n2_; clear n0_ n1_ n2_; clear ho hb hg hat)))
            go_roundg k2
            case measure => have := HK1.out; have := HK2.out; omega
            case rel => exact ⟨(y409), (wrap64 (x6_1 + 1)), sR, H', ⟨by have := HK1.out; have := HK2.out; omega⟩, ⟨U HO411.out⟩, ⟨U BK402.out⟩, ⟨BU⟩⟩
      rw [if_neg c6] at H; have c6b0 : decide (x6_1 < (l1.length : Int)) = false := decide_eq_false c6; clear c6; obtain rfl := Option.some.inj H
      go_wp2
      repeat (go_quiet (fail); try go_wp2)
      go_ret
      exact ⟨_, eR, U HO_5.out, BU⟩

end Go.Proofs.Ytnbeeogmaamgdaa.PFnOn
