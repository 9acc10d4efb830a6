-- Written by a program of this session (wip/print2.py): the functions that the law reaches, plain, and the walks.
import Derived.Test.YtnbeeogmaamgdaaPFnMoveBackx0
import Derived.Test.YtnbeeogmaamgdaaPFnMoveBackx7
import Derived.Test.YtnbeeogmaamgdaaPFnMoveBackx8
import Derived.Test.YtnbeeogmaamgdaaPFnMoveBackx9
import Derived.Test.YtnbeeogmaamgdaaPFnMoveBackx13
namespace Go.Proofs.Ytnbeeogmaamgdaa.PFnMoveBack
open Go.RowKit Go.Proofs.YtnbeeogmaamgdaaW.PrintWords Go.Proofs.YtnbeeogmaamgdaaW.PrintLast Go.Proofs.YtnbeeogmaamgdaaW.PrintMore
attribute [local go_sem] max2_int min2_int max_two min_two max_three min_three max_four min_four   -- for this text's walks alone
set_option linter.unusedVariables false
set_option linter.unusedSimpArgs false

/-! ### spec_MoveBack: function 39 -/
mutual
def spec_MoveBack.l0 : Nat → List Int → Int → List (List Int) → Int → List (List Int) → Int → Option ((List (List Int)) × Int × Bool)
  | 0, _, _, _, _, _, _ => none
  | k + 1, x0, x6, x7, x8, x457000, x457001 => if x8 < (x0.length : Int) then (spec_MoveBack.l1 k x0 x6 x7 x8 (([] : List Int)) 0 x457000 x457001) else ((spec_l7Low.f k x7 (wrap64 (x457001 * x6))).bind fun bt477 => ((spec_MoveValid.f k x0 bt477.1 bt477.2).bind fun t482 => (if t482 = true then (some (bt477.1, bt477.2, true)) else (some (([] : List (List Int)), 0, false)))))
def spec_MoveBack.l1 : Nat → List Int → Int → List (List Int) → Int → List Int → Int → List (List Int) → Int → Option ((List (List Int)) × Int × Bool)
  | 0, _, _, _, _, _, _, _, _ => none
  | k + 1, x0, x6, x7, x8, x9, x10, x457000, x457001 => if x10 < (x0.length : Int) then (if 0 ≤ x10 then (if x10 < (x457000.length : Int) then (if 0 ≤ x8 then (if x8 < ((rd_L1 x457000 x10).length : Int) then (if x8 < (x0.length : Int) then (if (rd x0 x8) = 0 then (none) else (if x9.length < 17592186044416 then (spec_MoveBack.l1 k x0 x6 x7 x8 (x9 ++ [wrap64 ((wrap64 ((rd (rd_L1 x457000 x10) x8) * (rd x0 x10))) * (wrap64 (Int.tdiv x6 (rd x0 x8))))]) (wrap64 (x10 + 1)) x457000 x457001) else (none))) else (none)) else (none)) else (none)) else (none)) else (none)) else (if x7.length < 5864062014805 then (spec_MoveBack.l0 k x0 x6 (x7 ++ [x9]) (wrap64 (x8 + 1)) x457000 x457001) else (none))
end
def spec_MoveBack.f (k : Nat) (l0 : List Int) (l1_0 : List (List Int)) (a1_1 : Int) : Option ((List (List Int)) × Int × Bool) := (spec_MoveValid.f k l0 l1_0 a1_1).bind fun t458 => (if t458 = true then ((spec_l4Product.f k l0).bind fun t459 => ((spec_l1Size.f t459).bind fun t460 => (spec_MoveBack.l0 k l0 t460 (([] : List (List Int))) 0 l1_0 a1_1))) else (some (([] : List (List Int)), 0, false)))
theorem spec_MoveBack.mono_l : ∀ k, (∀ y0 y1 y2 y3 y4 y5, LeO (spec_MoveBack.l0 k y0 y1 y2 y3 y4 y5) (spec_MoveBack.l0 (k + 1) y0 y1 y2 y3 y4 y5)) ∧ (∀ y0 y1 y2 y3 y4 y5 y6 y7, LeO (spec_MoveBack.l1 k y0 y1 y2 y3 y4 y5 y6 y7) (spec_MoveBack.l1 (k + 1) y0 y1 y2 y3 y4 y5 y6 y7))
  | 0 => ⟨fun _ _ _ _ _ _ r h => by simp [spec_MoveBack.l0] at h, fun _ _ _ _ _ _ _ _ r h => by simp [spec_MoveBack.l1] at h⟩
  | k + 1 => by
    obtain ⟨ih0, ih1⟩ := spec_MoveBack.mono_l k
    refine ⟨?_, ?_⟩ <;> intros <;> (first | unfold spec_MoveBack.l0 | unfold spec_MoveBack.l1) <;> (repeat' first
      | (with_reducible exact ih0 _ _ _ _ _ _)
      | (with_reducible exact ih1 _ _ _ _ _ _ _ _)
      | (with_reducible exact spec_MoveValid.mono _ _ _ _)
      | (with_reducible exact spec_l4Product.mono _ _)
      | (with_reducible exact spec_l7Low.mono _ _ _)
      | (with_reducible exact LeO.refl _)
      | (with_reducible exact LeO.none _)
      | (with_reducible refine LeO.ite ?_ ?_)
      | (with_reducible refine LeO.bind ?_ (fun _ => ?_))
      | exact ih0 _ _ _ _ _ _
      | exact ih1 _ _ _ _ _ _ _ _
      | exact spec_MoveValid.mono _ _ _ _
      | exact spec_l4Product.mono _ _
      | exact spec_l7Low.mono _ _ _
      | exact LeO.none _
      | refine LeO.ite ?_ ?_
      | refine LeO.bind ?_ (fun _ => ?_))
theorem spec_MoveBack.mono : ∀ a0 a1 a2 k, LeO (spec_MoveBack.f k a0 a1 a2) (spec_MoveBack.f (k + 1) a0 a1 a2) := by
  intro a0 a1 a2 k
  obtain ⟨ih0, ih1⟩ := spec_MoveBack.mono_l k
  unfold spec_MoveBack.f
  repeat' first
      | (with_reducible exact ih0 _ _ _ _ _ _)
      | (with_reducible exact ih1 _ _ _ _ _ _ _ _)
      | (with_reducible exact spec_MoveValid.mono _ _ _ _)
      | (with_reducible exact spec_l4Product.mono _ _)
      | (with_reducible exact spec_l7Low.mono _ _ _)
      | (with_reducible exact LeO.refl _)
      | (with_reducible exact LeO.none _)
      | (with_reducible refine LeO.ite ?_ ?_)
      | (with_reducible refine LeO.bind ?_ (fun _ => ?_))
      | exact ih0 _ _ _ _ _ _
      | exact ih1 _ _ _ _ _ _ _ _
      | exact spec_MoveValid.mono _ _ _ _
      | exact spec_l4Product.mono _ _
      | exact spec_l7Low.mono _ _ _
      | exact LeO.none _
      | refine LeO.ite ?_ ?_
      | refine LeO.bind ?_ (fun _ => ?_)
def spec_MoveBack.T12 : Bool × List (List Nat × List Nat) := (true, [([], []), ([], []), ([1], [1]), ([], []), ([2, 3], [2, 3]), ([4], [4]), ([], []), ([5, 6], [5, 6]), ([7], [7]), ([], []), ([], []), ([9, 10], [9, 10]), ([11], [11]), ([8, 12], [8, 12]), ([], []), ([], []), ([], []), ([15, 16], [15, 16]), ([17], [17]), ([14, 18], [14, 18]), ([13, 19], [13, 19]), ([20], [20]), ([0, 21], [0, 21]), ([22, 22, 0, 1, 2, 3, 4, 5, 6, 7, 8, 9, 10, 11, 12, 13, 14, 15, 16, 17, 18, 19, 20, 21, 22], [0, 22])])
def spec_MoveBack.B12 : List Nat := [0, 0, 2, 0, 14, 30, 0, 126, 254, 0, 0, 1536, 3584, 8190, 0, 0, 0, 98304, 229376, 507904, 1048574, 2097150, 4194303, 8388607]
theorem spec_MoveBack.tab12 : rtab .any (opsOf Try.f39 12) = spec_MoveBack.T12 := by kernel_rfl
theorem spec_MoveBack.bits12 : waitsOk spec_MoveBack.T12.2 spec_MoveBack.B12 = true := by kernel_rfl
set_option maxHeartbeats 8000000 in
set_option maxRecDepth 100000 in
theorem spec_MoveBack.calls (k : Nat) (A0 : Option Addr) (c0 : Nat) (l0 : List Int) (A1_0 : Option Addr) (c1_0 : Nat) (l1_0 : List (List Int)) (a1_1 : Int) (r1 : List (List Int)) (r2 : Int) (r3 : Bool) (w : World) (hr0 : Kd.C (Kd.int .i64) w A0 l0.length l0) (hc0 : l0.length ≤ c0) (hr1_0 : Kd.C (Kd.slice 3 (Kd.int .i64)) w A1_0 l1_0.length l1_0) (hc1_0 : l1_0.length ≤ c1_0) (h : spec_MoveBack.f k l0 l1_0 a1_1 = some (r1, r2, r3)) :
    Calls Try.prog 39 #[.slice A0 l0.length c0, .agg #[.slice A1_0 l1_0.length c1_0, .int .i64 a1_1]] w fun e w' => ∃ v0_ : Value, e = .returned (.tuple #[.agg #[v0_, .int .i64 r2], .bool r3]) ∧ Kd.S (Kd.slice 3 (Kd.int .i64)) 23 w' w.heap.size (fun _ => True) v0_ r1 ∧ Below w.heap.size w w' := by
  have hu27 := Try.underlying27; have HR0 := Aside0.mk hr0; have HC0 := Aside0.mk hc0; clear hr0 hc0; have HR1_0 := Aside0.mk hr1_0; have HC1_0 := Aside0.mk hc1_0; clear hr1_0 hc1_0; have HB := Aside0.mk (Below.refl w.heap.size w); unfold spec_MoveBack.f at h; have H := h; clear h; obtain ⟨t458, A3, H⟩ := bnd H
  by_cases c4 : t458 = true
  · subst c4
    replace H := ifT H; obtain ⟨t459, A5, H⟩ := bnd H; obtain ⟨t460, A6, H⟩ := bnd H; obtain ⟨y461, hy461⟩ : ∃ y_ : List (List Int), y_ = (([] : List (List Int))) := ⟨_, rfl⟩; replace H : (spec_MoveBack.l0 k l0 t460 y461 0 l1_0 a1_1) = some (r1, r2, r3) := rH hy461 H; have Ny461 := Aside0.mk hy461; clear hy461; have H' := Aside0.mk H; clear H; go_enter Try.func39, Try.ntmps39
    go_wp2_with (first | ((with_reducible refine gate_dst (N := 3) rfl ?_); refine boxE (N := 3) (cs := #[.slice A1_0 l1_0.length c1_0, .int .i64 a1_1]) (t := 27) ?_; intro gb456 hg w7 hbox hb; have BK456 := Aside0.mk (hbox); have GW456 := GS w hg; have GE456 := GS w hg; replace HB := BS hb; clear hb hbox hg) | ((with_reducible refine gate_dst (N := 4) rfl ?_); refine boxE (N := 4) (cs := #[.slice none 0 0, .int .i64 0]) (t := 27) ?_; intro gb457 hg w8 hbox hb; have BK457 := Aside0.mk (hbox); have GW457 := GS w hg; have GE457 := GS w hg; replace HB := BS hb; have NB456_457 := NL BK456 hg; have NB457_456 := NG BK456 hg; replace BK456 := bB BK456 hb; clear hb hbox hg; have hnb9 := NB456_457.out; have hnc9 := NB457_456.out; obtain ⟨hcz10_0, hcz10_1, hfz10_0, hfz10_1⟩ := bcf BK456) | ((with_reducible refine gate_callee (f := 41) rfl ?_); refine goesK (some 14) Try.func41 #[.slice A0 l0.length c0, .agg #[.slice A1_0 l1_0.length c1_0, .int .i64 a1_1]] ?_; (with_reducible refine (spec_MoveValid.calls k _ _ l0 _ _ l1_0 a1_1 true _ ?side1 ?side2 ?side3 ?side4 A3.out).mono ?_); (case side1 => exact U (Kd.C_below HR0.out HB.out)); (case side2 => exact HC0.out); (case side3 => exact U (Kd.C_below HR1_0.out HB.out)); (case side4 => exact HC1_0.out); rintro e w11 ⟨rfl, hb⟩; refine ⟨_, rfl, ?_⟩; replace BK456 := bB BK456 hb; replace BK457 := bB BK457 hb; replace HB := BS hb; (try clear hb)) | ((with_reducible refine gate_callee (f := 81) rfl ?_); refine goesK (some 18) Try.func81 #[.slice A0 l0.length c0] ?_; (with_reducible refine (spec_l4Product.calls k _ _ l0 t459 _ ?side1 ?side2 A5.out).mono ?_); (case side1 => exact U (Kd.C_below HR0.out HB.out)); (case side2 => exact HC0.out); rintro e w' ⟨rfl, ⟨nd, rfl⟩⟩; refine ⟨_, rfl, ?_⟩) | ((with_reducible refine gate_callee (f := 80) rfl ?_); refine goesK (some 19) Try.func80 #[.int .i64 t459] ?_; (with_reducible refine (spec_l1Size.calls t459 t460 _ A6.out).mono ?_); rintro e w12 ⟨rfl, hb⟩; refine ⟨_, rfl, ?_⟩; replace BK456 := bB BK456 hb; replace BK457 := bB BK457 hb; replace HB := BS hb; (try clear hb)) | ((with_reducible refine gate_dst (N := 20) rfl ?_); refine Kd.S_lit (Kd.slice 3 (Kd.int .i64)) _ 23 ?hg (N := 20) ?hd (xs := ([] : List (List Int))) (inner := []) (ok := fun _ => True) (okp := fun _ => True) ?hr ?hp (fun _ hk => hk) trivial (Below.refl _ _) (Nat.le_refl _) (by simp) ?_; (case hd => rfl); (case hg => rfl); (case hr => first | (go_simp; done) | (go_simp; rfl)); (case hp => exact (Reps.none _ _)); intro v462 w13 ho14 hb hg_ hnew_; clear hg_ hnew_; (first | rw [← Ny461.out] at ho14 | (simp only [Int.reduceToNat] at ho14; rw [← Ny461.out] at ho14)); have HO463 := Aside0.mk (Kd.S_lower ho14 (below_size BU)); replace BK456 := bB BK456 hb; replace BK457 := bB BK457 hb; replace HB := BS hb; clear hb ho14))
    go_loopg [7, 8] k (fun kq v7 v8 w' => ∃ (x7_1 : List (List Int)) (x8_1 : Int), v8 = .int .i64 x8_1 ∧ Aside0 (spec_MoveBack.l0 kq l0 t460 x7_1 x8_1 l1_0 a1_1 = some (r1, r2, r3)) ∧ Aside0 (kq ≤ k) ∧ Aside0 (Kd.S (Kd.slice 3 (Kd.int .i64)) 23 w' w.heap.size (fun _ => True) v7 x7_1) ∧ Aside0 (w'.heap[gb456]? = some (.cells #[(.slice A1_0 l1_0.length c1_0), .int .i64 a1_1] 27 (0, 0))) ∧ Aside0 (w'.heap[gb457]? = some (.cells #[(.slice none 0 0), .int .i64 0] 27 (0, 0))) ∧ Aside0 (Below w.heap.size w w'))
    case atStart => exact ⟨(y461), (0), sR, H', ⟨Nat.le_refl _⟩, ⟨U HO463.out⟩, ⟨U BK456.out⟩, ⟨U BK457.out⟩, ⟨BU⟩⟩
    case round =>
      clear H'; (try clear c4); (try clear hcz10_0); (try clear hcz10_1); (try clear hfz10_0); (try clear hfz10_1); obtain ⟨x7_1, x8_1, rfl, HA, HK1, HO_7, BK456, BK457, HB⟩ := hrel; cases gk with
      | zero => exact absurd HA.out (by simp [spec_MoveBack.l0])
      | succ k1 =>
        have H := HA.out; clear HA; simp only [spec_MoveBack.l0] at H
        by_cases c15 : x8_1 < (l0.length : Int)
        · rw [if_pos c15] at H
          have c15b0 : decide (x8_1 < (l0.length : Int)) = true := decide_eq_true c15; clear c15; obtain ⟨y464, hy464⟩ : ∃ y_ : List Int, y_ = (([] : List Int)) := ⟨_, rfl⟩; replace H : (spec_MoveBack.l1 k1 l0 t460 x7_1 x8_1 y464 0 l1_0 a1_1) = some (r1, r2, r3) := rH hy464 H; have Ny464 := Aside0.mk hy464; clear hy464; have H' := Aside0.mk H; clear H
          go_wp2_with (first | ((with_reducible refine gate_dst (N := 27) rfl ?_); refine Kd.R_lit (Kd.int .i64) _ 3 ?hg (N := 27) ?hd (xs := ([] : List Int)) (inner := []) (ok := fun _ => True) (okp := fun _ => True) ?hr ?hp (fun _ hk => hk) trivial (Below.refl _ _) (Nat.le_refl _) (by simp) ?_; (case hd => rfl); (case hg => rfl); (case hr => first | (go_simp; done) | (go_simp; rfl)); (case hp => exact (Reps.none _ _)); intro v465 w16 ho17 hb hg_ hnew_; clear hg_ hnew_; (first | rw [← Ny464.out] at ho17 | (simp only [Int.reduceToNat] at ho17; rw [← Ny464.out] at ho17)); replace HO_7 := Aside0.mk (Kd.S_elder' (U HO_7.out) (Kd.R_base ho17) hb); have HO466 := Aside0.mk (Kd.R_lower ho17 (below_size BU)); replace BK456 := bB BK456 hb; replace BK457 := bB BK457 hb; replace HB := BS hb; clear hb ho17))
          go_loopg [9, 10] k1 (fun kq v9 v10 w' => ∃ (x9_2 : List Int) (x10_2 : Int), v10 = .int .i64 x10_2 ∧ Aside0 (spec_MoveBack.l1 kq l0 t460 x7_1 x8_1 x9_2 x10_2 l1_0 a1_1 = some (r1, r2, r3)) ∧ Aside0 (kq ≤ k1) ∧ Aside0 (Kd.S (Kd.slice 3 (Kd.int .i64)) 23 w' w.heap.size (fun k_ => some k_ ≠ (v9 : Value).ownBlock) u7 x7_1) ∧ Aside0 (Kd.R (Kd.int .i64) 3 w' w.heap.size (fun _ => True) v9 x9_2) ∧ Aside0 (w'.heap[gb456]? = some (.cells #[(.slice A1_0 l1_0.length c1_0), .int .i64 a1_1] 27 (0, 0))) ∧ Aside0 (w'.heap[gb457]? = some (.cells #[(.slice none 0 0), .int .i64 0] 27 (0, 0))) ∧ Aside0 (Below w.heap.size w w'))
          case atStart => exact ⟨(y464), (0), sR, H', ⟨Nat.le_refl _⟩, ⟨Kd.SM HO_7.out (fun _ hk => hk.2)⟩, ⟨U HO466.out⟩, ⟨U BK456.out⟩, ⟨U BK457.out⟩, ⟨BU⟩⟩
          case round =>
            clear H'; (try clear c4); (try clear c15); (try clear c15b0); (try clear hcz10_0); (try clear hcz10_1); (try clear hfz10_0); (try clear hfz10_1); obtain ⟨x9_2, x10_2, rfl, HA, HK2, HO_7, HO_9, BK456, BK457, HB⟩ := hrel; cases gk with
            | zero => exact absurd HA.out (by simp [spec_MoveBack.l1])
            | succ k2 =>
              have H := HA.out; clear HA; simp only [spec_MoveBack.l1] at H
              by_cases c18 : x10_2 < (l0.length : Int)
              · rw [if_pos c18] at H
                have c18b0 : decide (x10_2 < (l0.length : Int)) = true := decide_eq_true c18; clear c18; obtain ⟨c19, H⟩ := ifN H; have c19b0 : decide (0 ≤ x10_2) = true := decide_eq_true c19; clear c19; obtain ⟨c20, H⟩ := ifN H; have c20b0 : decide (x10_2 < (l1_0.length : Int)) = true := decide_eq_true c20; clear c20; obtain ⟨c21, H⟩ := ifN H; have c21b0 : decide (0 ≤ x8_1) = true := decide_eq_true c21; clear c21; obtain ⟨c22, H⟩ := ifN H; have c22b0 : decide (x8_1 < ((rd_L1 l1_0 x10_2).length : Int)) = true := decide_eq_true c22; clear c22; obtain ⟨c23, H⟩ := ifN H; have c23b0 : decide (x8_1 < (l0.length : Int)) = true := decide_eq_true c23; clear c23; obtain ⟨c24, H⟩ := ifM H; have c24b0 : ((rd l0 x8_1) == 0) = false := beq_eq_false_iff_ne.mpr c24; have c24b1 : ((rd l0 x8_1) != 0) = true := bne_iff_ne.mpr c24; obtain ⟨c25, H⟩ := ifN H; have LMc25 := Aside0.mk c25; clear c25; obtain ⟨y471, hy471⟩ : ∃ y_ : List Int, y_ = (x9_2 ++ [wrap64 ((wrap64 ((rd (rd_L1 l1_0 x10_2) x8_1) * (rd l0 x10_2))) * (wrap64 (Int.tdiv t460 (rd l0 x8_1))))]) := ⟨_, rfl⟩; replace H : (spec_MoveBack.l1 k2 l0 t460 x7_1 x8_1 y471 (wrap64 (x10_2 + 1)) l1_0 a1_1) = some (r1, r2, r3) := rH hy471 H; have Ny471 := Aside0.mk hy471; clear hy471; have H' := Aside0.mk H; clear H
                try go_wp2
                replace HO_7 := Aside0.mk (Kd.S_drew HO_7.out); replace HO_9 := Aside0.mk (Kd.R_drew HO_9.out); replace BK456 := Aside0.mk (blk_drew BK456.out); replace BK457 := Aside0.mk (blk_drew BK457.out); replace HB := Aside0.mk (below_drew1 HB.out); have p467 : 0 ≤ (x10_2 : Int) := oD; have q467 : x10_2 < (l1_0.length : Int) := oD; obtain ⟨ad467, A467_0, c467_0, e467, hx467_0, hl467_0, hi467_0⟩ := at_L1 HR1_0.out x10_2 p467 q467; have hw467_0 := hx467_0; cases e467; replace hx467_0 := (HB.out.cell (World.block_lt_of_cell? w _ hx467_0)).trans hx467_0; have HR467_0 := Aside0.mk hi467_0; have HC467_0 := Aside0.mk hl467_0; clear hi467_0 hl467_0; replace p467 := eq_true p467; replace q467 := eq_true q467; have p468 : 0 ≤ (x8_1 : Int) := oD; have q468 : x8_1 < ((rd_L1 l1_0 x10_2).length : Int) := oD; obtain ⟨ad468, e468, hx468_0⟩ := Kd.at_int HR467_0.out x8_1 p468 q468; have hw468_0 := hx468_0; cases e468; replace hx468_0 := (HB.out.cell (World.block_lt_of_cell? w _ hx468_0)).trans hx468_0; replace p468 := eq_true p468; replace q468 := eq_true q468; have p469 : 0 ≤ (x10_2 : Int) := oD; have q469 : x10_2 < (l0.length : Int) := oD; obtain ⟨ad469, e469, hx469_0⟩ := Kd.at_int HR0.out x10_2 p469 q469; have hw469_0 := hx469_0; cases e469; replace hx469_0 := (HB.out.cell (World.block_lt_of_cell? w _ hx469_0)).trans hx469_0; replace p469 := eq_true p469; replace q469 := eq_true q469; have p470 : 0 ≤ (x8_1 : Int) := oD; have q470 : x8_1 < (l0.length : Int) := oD; obtain ⟨ad470, e470, hx470_0⟩ := Kd.at_int HR0.out x8_1 p470 q470; have hw470_0 := hx470_0; obtain rfl : ad469 = ad470 := (by injection e470); replace hx470_0 := (HB.out.cell (World.block_lt_of_cell? w _ hx470_0)).trans hx470_0; replace p470 := eq_true p470; replace q470 := eq_true q470
                refine start_ (n := 24) (S := fun w' => w'.cell? ⟨gb456, 0, none⟩ = some (.slice (some ad467) l1_0.length c1_0) ∧ w'.cell? ⟨gb456, 1, none⟩ = some (.int .i64 a1_1) ∧ w'.cell? (ad467.add (x10_2).toNat) = some (.slice (some ad468) (rd_L1 l1_0 x10_2).length c467_0) ∧ w'.cell? (ad468.add (x8_1).toNat) = some (.int .i64 (rd (rd_L1 l1_0 x10_2) x8_1)) ∧ w'.cell? (ad469.add (x10_2).toNat) = some (.int .i64 (rd l0 x10_2)) ∧ w'.cell? (ad469.add (x8_1).toNat) = some (.int .i64 (rd l0 x8_1))) (ds := []) #[false, false, false, false, false, false, false, false, false, false, false, false, false, false, false, false, false, false, false, false, false, false, false, false] (by kernel_rfl) rfl rfl ⟨(blk_cell BK456.out 0).trans rfl, (blk_cell BK456.out 1).trans rfl, ((HB.out.cell (World.block_lt_of_cell? w _ hw467_0)).trans hw467_0), ((HB.out.cell (World.block_lt_of_cell? w _ hw468_0)).trans hw468_0), ((HB.out.cell (World.block_lt_of_cell? w _ hw469_0)).trans hw469_0), ((HB.out.cell (World.block_lt_of_cell? w _ hw470_0)).trans hw470_0)⟩ (fun hHeld => ?_); refine with_tabW spec_MoveBack.tab12 spec_MoveBack.bits12 (fun HT_ HW_ => ?_)
                generalize wr.drew = w26 at HO_7 HO_9 BK456 BK457 HB HR467_0 hx467_0 hx468_0 hx469_0 hx470_0 hHeld ⊢
                refine pure_ (i := 0) (N := some 34) (v := ?_) (a' := ?_) #[true, false, false, false, false, false, false, false, false, false, false, false, false, false, false, false, false, false, false, false, false, false, false, false] rfl rfl (any_of HT_.out (by kernel_rfl)) (fun _ _ _ h => h) (Or.inl ⟨by rfl, ?_⟩) ?_ ?_
                rotate_left
                · intro w'
                  go_simp
                  with_reducible rfl
                rotate_left
                · simp only [Act.put, List.setIfInBounds_toArray, List.set_cons_zero, List.set_cons_succ, i64_w, i32_w]
                  rfl
                refine pure_ (i := 1) (N := some 35) (v := ?_) (a' := ?_) #[true, true, false, false, false, false, false, false, false, false, false, false, false, false, false, false, false, false, false, false, false, false, false, false] rfl rfl (any_of HT_.out (by kernel_rfl)) (fun _ _ _ h => h) (Or.inl ⟨by rfl, ?_⟩) ?_ ?_
                rotate_left
                · intro w'
                  go_simp
                  with_reducible rfl
                rotate_left
                · simp only [Act.put, List.setIfInBounds_toArray, List.set_cons_zero, List.set_cons_succ, i64_w, i32_w]
                  rfl
                refine pure_ (i := 3) (N := some 37) (v := ?_) (a' := ?_) #[true, true, false, true, false, false, false, false, false, false, false, false, false, false, false, false, false, false, false, false, false, false, false, false] rfl rfl (any_of HT_.out (by kernel_rfl)) (fun _ _ _ h => h) (Or.inl ⟨by rfl, ?_⟩) ?_ ?_
                rotate_left
                · intro w'
                  go_simp
                  with_reducible rfl
                rotate_left
                · simp only [Act.put, List.setIfInBounds_toArray, List.set_cons_zero, List.set_cons_succ, i64_w, i32_w]
                  rfl
                refine pure_ (i := 6) (N := some 40) (v := ?_) (a' := ?_) #[true, true, false, true, false, false, true, false, false, false, false, false, false, false, false, false, false, false, false, false, false, false, false, false] rfl rfl (any_of HT_.out (by kernel_rfl)) (fun _ _ _ h => h) (Or.inl ⟨by rfl, ?_⟩) ?_ ?_
                rotate_left
                · intro w'
                  go_simp
                  with_reducible rfl
                rotate_left
                · simp only [Act.put, List.setIfInBounds_toArray, List.set_cons_zero, List.set_cons_succ, i64_w, i32_w]
                  rfl
                refine pure_ (i := 9) (N := some 43) (v := ?_) (a' := ?_) #[true, true, false, true, false, false, true, false, false, true, false, false, false, false, false, false, false, false, false, false, false, false, false, false] rfl rfl (any_of HT_.out (by kernel_rfl)) (fun _ _ _ h => h) (Or.inl ⟨by rfl, ?_⟩) ?_ ?_
                rotate_left
                · intro w'
                  go_simp
                  with_reducible rfl
                rotate_left
                · simp only [Act.put, List.setIfInBounds_toArray, List.set_cons_zero, List.set_cons_succ, i64_w, i32_w]
                  rfl
                refine pure_ (i := 10) (N := some 44) (v := ?_) (a' := ?_) #[true, true, false, true, false, false, true, false, false, true, true, false, false, false, false, false, false, false, false, false, false, false, false, false] rfl rfl (any_of HT_.out (by kernel_rfl)) (fun _ _ _ h => h) (Or.inl ⟨by rfl, ?_⟩) ?_ ?_
                rotate_left
                · intro w'
                  go_simp
                  with_reducible rfl
                rotate_left
                · simp only [Act.put, List.setIfInBounds_toArray, List.set_cons_zero, List.set_cons_succ, i64_w, i32_w]
                  rfl
                refine pure_ (i := 11) (N := some 45) (v := ?_) (a' := ?_) #[true, true, false, true, false, false, true, false, false, true, true, true, false, false, false, false, false, false, false, false, false, false, false, false] rfl rfl (any_of HT_.out (by kernel_rfl)) (fun _ _ _ h => h) (Or.inl ⟨by rfl, ?_⟩) ?_ ?_
                rotate_left
                · intro w'
                  go_simp
                  with_reducible rfl
                rotate_left
                · simp only [Act.put, List.setIfInBounds_toArray, List.set_cons_zero, List.set_cons_succ, i64_w, i32_w]
                  rfl
                refine pure_ (i := 14) (N := some 48) (v := ?_) (a' := ?_) #[true, true, false, true, false, false, true, false, false, true, true, true, false, false, true, false, false, false, false, false, false, false, false, false] rfl rfl (any_of HT_.out (by kernel_rfl)) (fun _ _ _ h => h) (Or.inl ⟨by rfl, ?_⟩) ?_ ?_
                rotate_left
                · intro w'
                  go_simp
                  with_reducible rfl
                rotate_left
                · simp only [Act.put, List.setIfInBounds_toArray, List.set_cons_zero, List.set_cons_succ, i64_w, i32_w]
                  rfl
                refine pure_ (i := 15) (N := some 49) (v := ?_) (a' := ?_) #[true, true, false, true, false, false, true, false, false, true, true, true, false, false, true, true, false, false, false, false, false, false, false, false] rfl rfl (any_of HT_.out (by kernel_rfl)) (fun _ _ _ h => h) (Or.inl ⟨by rfl, ?_⟩) ?_ ?_
                rotate_left
                · intro w'
                  go_simp
                  with_reducible rfl
                rotate_left
                · simp only [Act.put, List.setIfInBounds_toArray, List.set_cons_zero, List.set_cons_succ, i64_w, i32_w]
                  rfl
                refine pure_ (i := 16) (N := some 50) (v := ?_) (a' := ?_) #[true, true, false, true, false, false, true, false, false, true, true, true, false, false, true, true, true, false, false, false, false, false, false, false] rfl rfl (any_of HT_.out (by kernel_rfl)) (fun _ _ _ h => h) (Or.inl ⟨by rfl, ?_⟩) ?_ ?_
                rotate_left
                · intro w'
                  go_simp
                  with_reducible rfl
                rotate_left
                · simp only [Act.put, List.setIfInBounds_toArray, List.set_cons_zero, List.set_cons_succ, i64_w, i32_w]
                  rfl
                refine pure_ (i := 17) (N := some 51) (v := ?_) (a' := ?_) #[true, true, false, true, false, false, true, false, false, true, true, true, false, false, true, true, true, true, false, false, false, false, false, false] rfl rfl (any_of HT_.out (by kernel_rfl)) (fun _ _ _ h => h) (Or.inl ⟨by rfl, ?_⟩) ?_ ?_
                rotate_left
                · intro w'
                  go_simp
                  with_reducible rfl
                rotate_left
                · simp only [Act.put, List.setIfInBounds_toArray, List.set_cons_zero, List.set_cons_succ, i64_w, i32_w]
                  rfl
                refine take_ (i := 2) (N := some 36) (v := ?_) (a' := ?_) #[true, true, true, true, false, false, true, false, false, true, true, true, false, false, true, true, true, true, false, false, false, false, false, false] rfl rfl (take_ofW HT_.out HW_.out (by kernel_rfl)) (fun _ _ _ h => h) (Or.inl ⟨by rfl, ?_⟩) hHeld ?_ ?_
                rotate_left
                · rintro w' ⟨s0, s1, s2, s3, s4, s5⟩
                  go_simp
                  with_reducible rfl
                rotate_left
                · simp only [Act.put, List.setIfInBounds_toArray, List.set_cons_zero, List.set_cons_succ, i64_w, i32_w]
                  rfl
                refine pure_ (i := 4) (N := some 38) (v := ?_) (a' := ?_) #[true, true, true, true, true, false, true, false, false, true, true, true, false, false, true, true, true, true, false, false, false, false, false, false] rfl rfl (any_of HT_.out (by kernel_rfl)) (fun _ _ _ h => h) (Or.inl ⟨by rfl, ?_⟩) ?_ ?_
                rotate_left
                · intro w'
                  go_simp
                  with_reducible rfl
                rotate_left
                · simp only [Act.put, List.setIfInBounds_toArray, List.set_cons_zero, List.set_cons_succ, i64_w, i32_w]
                  rfl
                refine take_ (i := 5) (N := some 39) (v := ?_) (a' := ?_) #[true, true, true, true, true, true, true, false, false, true, true, true, false, false, true, true, true, true, false, false, false, false, false, false] rfl rfl (take_ofW HT_.out HW_.out (by kernel_rfl)) (fun _ _ _ h => h) (Or.inl ⟨by rfl, ?_⟩) hHeld ?_ ?_
                rotate_left
                · rintro w' ⟨s0, s1, s2, s3, s4, s5⟩
                  go_simp
                  with_reducible rfl
                rotate_left
                · simp only [Act.put, List.setIfInBounds_toArray, List.set_cons_zero, List.set_cons_succ, i64_w, i32_w]
                  rfl
                refine pure_ (i := 7) (N := some 41) (v := ?_) (a' := ?_) #[true, true, true, true, true, true, true, true, false, true, true, true, false, false, true, true, true, true, false, false, false, false, false, false] rfl rfl (any_of HT_.out (by kernel_rfl)) (fun _ _ _ h => h) (Or.inl ⟨by rfl, ?_⟩) ?_ ?_
                rotate_left
                · intro w'
                  go_simp
                  with_reducible rfl
                rotate_left
                · simp only [Act.put, List.setIfInBounds_toArray, List.set_cons_zero, List.set_cons_succ, i64_w, i32_w]
                  rfl
                refine take_ (i := 8) (N := some 42) (v := ?_) (a' := ?_) #[true, true, true, true, true, true, true, true, true, true, true, true, false, false, true, true, true, true, false, false, false, false, false, false] rfl rfl (take_ofW HT_.out HW_.out (by kernel_rfl)) (fun _ _ _ h => h) (Or.inl ⟨by rfl, ?_⟩) hHeld ?_ ?_
                rotate_left
                · rintro w' ⟨s0, s1, s2, s3, s4, s5⟩
                  go_simp
                  with_reducible rfl
                rotate_left
                · simp only [Act.put, List.setIfInBounds_toArray, List.set_cons_zero, List.set_cons_succ, i64_w, i32_w]
                  rfl
                refine take_ (i := 12) (N := some 46) (v := ?_) (a' := ?_) #[true, true, true, true, true, true, true, true, true, true, true, true, true, false, true, true, true, true, false, false, false, false, false, false] rfl rfl (take_ofW HT_.out HW_.out (by kernel_rfl)) (fun _ _ _ h => h) (Or.inl ⟨by rfl, ?_⟩) hHeld ?_ ?_
                rotate_left
                · rintro w' ⟨s0, s1, s2, s3, s4, s5⟩
                  go_simp
                  with_reducible rfl
                rotate_left
                · simp only [Act.put, List.setIfInBounds_toArray, List.set_cons_zero, List.set_cons_succ, i64_w, i32_w]
                  rfl
                refine pure_ (i := 13) (N := some 47) (v := ?_) (a' := ?_) #[true, true, true, true, true, true, true, true, true, true, true, true, true, true, true, true, true, true, false, false, false, false, false, false] rfl rfl (any_of HT_.out (by kernel_rfl)) (fun _ _ _ h => h) (Or.inl ⟨by rfl, ?_⟩) ?_ ?_
                rotate_left
                · intro w'
                  go_simp
                  with_reducible rfl
                rotate_left
                · simp only [Act.put, List.setIfInBounds_toArray, List.set_cons_zero, List.set_cons_succ, i64_w, i32_w]
                  rfl
                refine take_ (i := 18) (N := some 52) (v := ?_) (a' := ?_) #[true, true, true, true, true, true, true, true, true, true, true, true, true, true, true, true, true, true, true, false, false, false, false, false] rfl rfl (take_ofW HT_.out HW_.out (by kernel_rfl)) (fun _ _ _ h => h) (Or.inl ⟨by rfl, ?_⟩) hHeld ?_ ?_
                rotate_left
                · rintro w' ⟨s0, s1, s2, s3, s4, s5⟩
                  go_simp
                  with_reducible rfl
                rotate_left
                · simp only [Act.put, List.setIfInBounds_toArray, List.set_cons_zero, List.set_cons_succ, i64_w, i32_w]
                  rfl
                refine pure_ (i := 19) (N := some 53) (v := ?_) (a' := ?_) #[true, true, true, true, true, true, true, true, true, true, true, true, true, true, true, true, true, true, true, true, false, false, false, false] rfl rfl (any_of HT_.out (by kernel_rfl)) (fun _ _ _ h => h) (Or.inl ⟨by rfl, ?_⟩) ?_ ?_
                rotate_left
                · intro w'
                  go_simp
                  with_reducible rfl
                rotate_left
                · simp only [Act.put, List.setIfInBounds_toArray, List.set_cons_zero, List.set_cons_succ, i64_w, i32_w]
                  rfl
                refine pure_ (i := 20) (N := some 54) (v := ?_) (a' := ?_) #[true, true, true, true, true, true, true, true, true, true, true, true, true, true, true, true, true, true, true, true, true, false, false, false] rfl rfl (any_of HT_.out (by kernel_rfl)) (fun _ _ _ h => h) (Or.inl ⟨by rfl, ?_⟩) ?_ ?_
                rotate_left
                · intro w'
                  go_simp
                  with_reducible rfl
                rotate_left
                · simp only [Act.put, List.setIfInBounds_toArray, List.set_cons_zero, List.set_cons_succ, i64_w, i32_w]
                  rfl
                refine one_ (i := 21) (N := some 55) #[true, true, true, true, true, true, true, true, true, true, true, true, true, true, true, true, true, true, true, true, true, true, false, false] rfl rfl (one_of HT_.out (by kernel_rfl)) (by decide) (fun K hK => ?_)
                refine value_ (w1 := ?_) (v := ?_) (by rfl) rfl ?_ ?_
                rotate_left 2
                · go_simp
                  constructor
                  · rfl
                  rfl
                refine hK.out _ _ ⟨(blk_cell (blk_alloc BK456.out _) 0).trans rfl, (blk_cell (blk_alloc BK456.out _) 1).trans rfl, (World.cell?_alloc_lt _ _ _ (World.block_lt_of_cell? _ _ (((HB.out.cell (World.block_lt_of_cell? w _ hw467_0)).trans hw467_0)))).trans (((HB.out.cell (World.block_lt_of_cell? w _ hw467_0)).trans hw467_0)), (World.cell?_alloc_lt _ _ _ (World.block_lt_of_cell? _ _ (((HB.out.cell (World.block_lt_of_cell? w _ hw468_0)).trans hw468_0)))).trans (((HB.out.cell (World.block_lt_of_cell? w _ hw468_0)).trans hw468_0)), (World.cell?_alloc_lt _ _ _ (World.block_lt_of_cell? _ _ (((HB.out.cell (World.block_lt_of_cell? w _ hw469_0)).trans hw469_0)))).trans (((HB.out.cell (World.block_lt_of_cell? w _ hw469_0)).trans hw469_0)), (World.cell?_alloc_lt _ _ _ (World.block_lt_of_cell? _ _ (((HB.out.cell (World.block_lt_of_cell? w _ hw470_0)).trans hw470_0)))).trans (((HB.out.cell (World.block_lt_of_cell? w _ hw470_0)).trans hw470_0))⟩ (fun hHeld => ?_)
                clear hK K
                refine norm_ (a' := ?_) ?_ ?_
                rotate_left
                · show Act.put _ (some 55) _ = _
                  simp only [Act.put, List.setIfInBounds_toArray, List.set_cons_zero, List.set_cons_succ, i64_w, i32_w]
                  rfl
                refine one_ (i := 22) (N := some 56) #[true, true, true, true, true, true, true, true, true, true, true, true, true, true, true, true, true, true, true, true, true, true, true, false] rfl rfl (one_of HT_.out (by kernel_rfl)) (by decide) (fun K hK => ?_)
                refine Kd.R_append_step (Kd.int .i64) (w0 := w) w.heap.size (by rfl) (.tmp 34) (.tmp 55) 23 3 (.int .i64 0) 8 rfl Try.underlying23 info3 rfl (by decide) (by omega) u9 x9_2 (wrap64 ((wrap64 ((rd (rd_L1 l1_0 x10_2) x8_1) * (rd l0 x10_2))) * (wrap64 (Int.tdiv t460 (rd l0 x8_1))))) [.int .i64 (wrap64 ((wrap64 ((rd (rd_L1 l1_0 x10_2) x8_1) * (rd l0 x10_2))) * (wrap64 (Int.tdiv t460 (rd l0 x8_1)))))] (fun _ => True) (fun _ => False) rfl rfl ?aP (fun _ hk => hk.elim) ?aF ?aO ?aB ?aS ?aL ?_
                (case aP => exact rfl)
                (case aB => exact BU)
                (case aF => exact (fun _ _ => trivial))
                (case aO => exact (U HO_9.out))
                (case aS => exact (below_size BU))
                (case aL => have := LMc25.out; omega)
                intro v472 w27 ho hb hg hat; rw [← Ny471.out] at ho; have n0_ := Aside0.mk (Kd.S_after (ok := (fun _ => True)) (Kd.SM HO_7.out (fun _ hk => ⟨trivial, hk⟩)) hg hat); have n1_ := bG BK456 hg (Kd.R_ne HO_9.out BK456.out (by decide)); have n2_ := bG BK457 hg (Kd.R_ne HO_9.out BK457.out (by decide)); have n3_ := Aside0.mk (hb); have n4_ := Aside0.mk (ho); clear HO_7 BK456 BK457; (try clear HB); clear HO_9; have HO_7 := n0_; have BK456 := n1_; have BK457 := n2_; have HB := n3_; have HO473 := n4_; clear n0_ n1_ n2_ n3_ n4_ ho hb hg hat
                refine hK.out _ _ ⟨(blk_cell BK456.out 0).trans rfl, (blk_cell BK456.out 1).trans rfl, ((HB.out.cell (World.block_lt_of_cell? w _ hw467_0)).trans hw467_0), ((HB.out.cell (World.block_lt_of_cell? w _ hw468_0)).trans hw468_0), ((HB.out.cell (World.block_lt_of_cell? w _ hw469_0)).trans hw469_0), ((HB.out.cell (World.block_lt_of_cell? w _ hw470_0)).trans hw470_0)⟩ (fun hHeld => ?_)
                clear hK K
                refine norm_ (a' := ?_) ?_ ?_
                rotate_left
                · show Act.put _ (some 56) _ = _
                  simp only [Act.put, List.setIfInBounds_toArray, List.set_cons_zero, List.set_cons_succ, i64_w, i32_w]
                  rfl
                refine pure_ (i := 23) (N := some 9) (v := ?_) (a' := ?_) #[true, true, true, true, true, true, true, true, true, true, true, true, true, true, true, true, true, true, true, true, true, true, true, true] rfl rfl (any_of HT_.out (by kernel_rfl)) (fun _ _ _ h => h) (Or.inl ⟨by rfl, ?_⟩) ?_ ?_
                rotate_left
                · intro w'
                  go_simp
                  with_reducible rfl
                rotate_left
                · simp only [Act.put, List.setIfInBounds_toArray, List.set_cons_zero, List.set_cons_succ, i64_w, i32_w]
                  rfl
                refine done_ (done_of HT_.out (by kernel_rfl)) ?_
                try go_wp2
                go_roundg k2
                case measure => have := HK1.out; have := HK2.out; omega
                case rel => exact ⟨(y471), (wrap64 (x10_2 + 1)), sR, H', ⟨by have := HK1.out; have := HK2.out; omega⟩, ⟨Kd.SM HO_7.out (fun _ hk => hk.2)⟩, ⟨U HO473.out⟩, ⟨U BK456.out⟩, ⟨U BK457.out⟩, ⟨BU⟩⟩
              rw [if_neg c18] at H; have c18b0 : decide (x10_2 < (l0.length : Int)) = false := decide_eq_false c18; clear c18; obtain ⟨c28, H⟩ := ifN H; have LMc28 := Aside0.mk c28; clear c28; obtain ⟨y474, hy474⟩ : ∃ y_ : List (List Int), y_ = (x7_1 ++ [x9_2]) := ⟨_, rfl⟩; replace H : (spec_MoveBack.l0 k2 l0 t460 y474 (wrap64 (x8_1 + 1)) l1_0 a1_1) = some (r1, r2, r3) := rH hy474 H; have Ny474 := Aside0.mk hy474; clear hy474; have H' := Aside0.mk H; clear H; obtain ⟨Ao30, co30, eo30⟩ := Kd.R_slice HO_9.out; subst eo30
              go_wp2_with (first | ((with_reducible refine gate_builtin (b := .append) (xs := #[.tmp 57, .tmp 59]) rfl ?_); at_builtin; refine Kd.S_append (Kd.slice 3 (Kd.int .i64)) (w0 := w) w.heap.size rfl (.tmp 57) (.tmp 59) 25 23 (.slice none 0 0) 24 rfl Try.underlying25 info23 rfl (by decide) (by omega) u7 x7_1 x9_2 [.slice Ao30 x9_2.length co30] (fun _ => True) (fun k_ => some k_ = (.slice Ao30 x9_2.length co30 : Value).ownBlock) rfl rfl ?aP (fun k_ hk_ => ((Kd.R_mono (ok' := fun k_ => ((fun _ => True)) k_ ∧ some k_ ≠ (u7 : Value).ownBlock) (Kd.R_apart' (HO_9.out) (Kd.S_typed HO_7.out) (by decide)) (fun k_ hk => ⟨trivial, hk.2⟩))).1 k_ hk_.symm) ?aF ?aO ?aB ?aS ?aL ?_; (case aP => exact Kd.M_row (Kd.R_mono (Kd.R_tight rfl (Kd.R_mono (ok' := fun k_ => ((fun _ => True)) k_ ∧ some k_ ≠ (u7 : Value).ownBlock) (Kd.R_apart' (HO_9.out) (Kd.S_typed HO_7.out) (by decide)) (fun k_ hk => ⟨trivial, hk.2⟩))) (fun _ h_ => h_))); (case aB => exact BU); (case aF => exact (fun _ _ => trivial)); (case aO => exact (Kd.SM HO_7.out (fun k_ hk => ⟨trivial, fun e_ => hk e_⟩))); (case aS => exact (below_size BU)); (case aL => have := LMc28.out; omega); intro v475 w29 ho hb hg hat; rw [← Ny474.out] at ho; have n0_ := bG BK456 hg (Kd.S_ne HO_7.out BK456.out (by decide)); have n1_ := bG BK457 hg (Kd.S_ne HO_7.out BK457.out (by decide)); have n2_ := Aside0.mk (hb); have n3_ := Aside0.mk (ho); clear BK456; clear BK457; try clear HB; clear HO_7; clear HO_9; have BK456 := n0_; have BK457 := n1_; have HB := n2_; have HO476 := n3_; clear n0_ n1_ n2_ n3_; clear ho hb hg hat))
              go_roundg k2
              case measure => have := HK1.out; have := HK2.out; omega
              case rel => exact ⟨(y474), (wrap64 (x8_1 + 1)), sR, H', ⟨by have := HK1.out; have := HK2.out; omega⟩, ⟨U HO476.out⟩, ⟨U BK456.out⟩, ⟨U BK457.out⟩, ⟨BU⟩⟩
        rw [if_neg c15] at H; have c15b0 : decide (x8_1 < (l0.length : Int)) = false := decide_eq_false c15; clear c15; obtain ⟨⟨t477, t480⟩, A31, H⟩ := bnd H
        replace H : ((spec_MoveValid.f k1 l0 t477 t480).bind fun t482 => (if t482 = true then (some (t477, t480, true)) else (some (([] : List (List Int)), 0, false)))) = some (r1, r2, r3) := H
        obtain ⟨t482, A32, H⟩ := bnd H
        by_cases c33 : t482 = true
        · subst c33
          replace H := ifT H; simp only [Option.some.injEq, Prod.mk.injEq] at H; obtain ⟨rfl, rfl, rfl⟩ := H; have hnb34 := NB456_457.out; have hnc34 := NB457_456.out; obtain ⟨hcz35_0, hcz35_1, hfz35_0, hfz35_1⟩ := bcf BK456; obtain ⟨Ao36, co36, eo36⟩ := Kd.S_slice HO_7.out; subst eo36
          go_wp2_with (first | ((with_reducible refine gate_callee (f := 68) rfl ?_); refine goesK (some 66) Try.func68 #[.slice Ao36 x7_1.length co36, .int .i64 (wrap64 (a1_1 * t460))] ?_; (with_reducible refine (spec_l7Low.calls k1 _ _ x7_1 (wrap64 (a1_1 * t460)) t477 t480 _ ?side1 ?side2 A31.out).mono ?_); (case side1 => exact U ((Kd.S_reads' HO_7.out).2.2)); (case side2 => exact (Kd.S_reads' HO_7.out).2.1); rintro e w37 ⟨v478, rfl, ho0, hb⟩; refine ⟨_, rfl, ?_⟩; have HO479 := Aside0.mk (Kd.S_lower (Kd.S_new' ho0 (Kd.S_lt (U HO_7.out))) (below_size BU)); replace HO_7 := Aside0.mk (Kd.S_elder' (U HO_7.out) (Kd.S_base ho0) hb); replace BK456 := bB BK456 hb; replace BK457 := bB BK457 hb; replace HB := BS hb; (try clear hb); (try clear ho0)) | ((with_reducible refine gate_dst (N := 11) rfl ?_); refine boxE (N := 11) (cs := #[.slice none 0 0, .int .i64 0]) (t := 27) ?_; intro gb481 hg w38 hbox hb; replace HO_7 := Aside0.mk (Kd.S_below (U HO_7.out) hb); replace HO479 := Aside0.mk (Kd.S_below (U HO479.out) hb); have BK481 := Aside0.mk (hbox); have GW481 := GS w hg; have GE481 := GS w hg; replace HB := BS hb; have NB456_481 := NL BK456 hg; have NB481_456 := NG BK456 hg; replace BK456 := bB BK456 hb; have NB457_481 := NL BK457 hg; have NB481_457 := NG BK457 hg; replace BK457 := bB BK457 hb; clear hb hbox hg; obtain ⟨Ao39, co39, eo39⟩ := Kd.S_slice HO479.out; subst eo39; have hnb40 := NB481_456.out; have hnc40 := NB456_481.out; have hnb41 := NB481_457.out; have hnc41 := NB457_481.out; obtain ⟨hcz42_0, hcz42_1, hfz42_0, hfz42_1⟩ := bcf BK481) | ((with_reducible refine gate_callee (f := 41) rfl ?_); refine goesK (some 69) Try.func41 #[.slice A0 l0.length c0, .agg #[.slice Ao39 t477.length co39, .int .i64 t480]] ?_; (with_reducible refine (spec_MoveValid.calls k1 _ _ l0 _ _ t477 t480 true _ ?side1 ?side2 ?side3 ?side4 A32.out).mono ?_); (case side1 => exact Kd.C_below HR0.out BU); (case side2 => exact HC0.out); (case side3 => refine (Kd.S_reads' (e := 23) (base := w.heap.size) (ok := fun k_ => (True ∧ some k_ ≠ (.slice Ao36 x7_1.length co36 : Value).ownBlock)) (n := t477.length) (c := co39) ?_).2.2; exact (Kd.SM (Kd.S_far (p := ⟨gb481, 1, none⟩) (Kd.S_far (p := ⟨gb481, 0, none⟩) (Kd.S_types HO479.out BK481.out (by decide)) (fun _ hk => hk.2) (.slice Ao39 t477.length co39)) (fun _ hk => hk.2) (.int .i64 t480)) (fun _ h_ => h_.1))); (case side4 => exact (Kd.S_reads' HO479.out).2.1); rintro e w43 ⟨rfl, hb⟩; refine ⟨_, rfl, ?_⟩; replace HO_7 := Aside0.mk (Kd.S_below (Kd.SM (Kd.S_far (p := ⟨gb481, 1, none⟩) (Kd.S_far (p := ⟨gb481, 0, none⟩) (Kd.S_types HO_7.out BK481.out (by decide)) (fun _ hk => hk.2) (.slice Ao39 t477.length co39)) (fun _ hk => hk.2) (.int .i64 t480)) (fun _ h_ => h_.1)) hb); replace HO479 := Aside0.mk (Kd.S_below (Kd.SM (Kd.S_far (p := ⟨gb481, 1, none⟩) (Kd.S_far (p := ⟨gb481, 0, none⟩) (Kd.S_types HO479.out BK481.out (by decide)) (fun _ hk => hk.2) (.slice Ao39 t477.length co39)) (fun _ hk => hk.2) (.int .i64 t480)) (fun _ h_ => h_.1)) hb); replace BK456 := Aside0.mk (blk_below (g := gb456) (o := .cells #[.slice A1_0 l1_0.length c1_0, .int .i64 a1_1] 27 (0, 0)) (by (with_reducible repeat (first | refine blk_drewN ?_ _ | refine blk_drew ?_ | refine blk_alloc ?_ _)); refine blk_far ?_ NB456_481.out _; (with_reducible repeat (first | refine blk_drewN ?_ _ | refine blk_drew ?_ | refine blk_alloc ?_ _)); refine blk_far ?_ NB456_481.out _; (with_reducible repeat (first | refine blk_drewN ?_ _ | refine blk_drew ?_ | refine blk_alloc ?_ _)); exact BK456.out) hb); replace BK457 := Aside0.mk (blk_below (g := gb457) (o := .cells #[.slice none 0 0, .int .i64 0] 27 (0, 0)) (by (with_reducible repeat (first | refine blk_drewN ?_ _ | refine blk_drew ?_ | refine blk_alloc ?_ _)); refine blk_far ?_ NB457_481.out _; (with_reducible repeat (first | refine blk_drewN ?_ _ | refine blk_drew ?_ | refine blk_alloc ?_ _)); refine blk_far ?_ NB457_481.out _; (with_reducible repeat (first | refine blk_drewN ?_ _ | refine blk_drew ?_ | refine blk_alloc ?_ _)); exact BK457.out) hb); replace BK481 := Aside0.mk (blk_below (g := gb481) (o := .cells #[.slice Ao39 t477.length co39, .int .i64 t480] 27 (0, 0)) (by (with_reducible repeat (first | refine blk_drewN ?_ _ | refine blk_drew ?_ | refine blk_alloc ?_ _)); refine blk_put (cs := #[.slice Ao39 t477.length co39, .int .i64 0]) ?_ 1 _ rfl; (with_reducible repeat (first | refine blk_drewN ?_ _ | refine blk_drew ?_ | refine blk_alloc ?_ _)); refine blk_put (cs := #[.slice none 0 0, .int .i64 0]) ?_ 0 _ rfl; (with_reducible repeat (first | refine blk_drewN ?_ _ | refine blk_drew ?_ | refine blk_alloc ?_ _)); exact BK481.out) hb); replace HB := BS hb; (try clear hb); obtain ⟨hcz44_0, hcz44_1, hfz44_0, hfz44_1⟩ := bcf BK481; obtain ⟨hcz45_0, hcz45_1, hfz45_0, hfz45_1⟩ := bcf BK457))
          refine bodyPost_ret (results_ct rfl _ _ gb457 27 #[.slice Ao39 t477.length co39, .int .i64 t480] (0, 0) _ rfl (by (with_reducible repeat (first | refine blk_drewN ?_ _ | refine blk_drew ?_ | refine blk_alloc ?_ _)); refine blk_put (cs := #[.slice Ao39 t477.length co39, .int .i64 0]) ?_ 1 _ rfl; (with_reducible repeat (first | refine blk_drewN ?_ _ | refine blk_drew ?_ | refine blk_alloc ?_ _)); refine blk_put (cs := #[.slice none 0 0, .int .i64 0]) ?_ 0 _ rfl; (with_reducible repeat (first | refine blk_drewN ?_ _ | refine blk_drew ?_ | refine blk_alloc ?_ _)); exact BK457.out) Try.underlying27 rfl (by kernel_rfl)) rfl ?_
          exact ⟨_, eR, Kd.SM (Kd.S_far (p := ⟨gb457, 1, none⟩) (Kd.S_far (p := ⟨gb457, 0, none⟩) (Kd.S_types HO479.out BK457.out (by decide)) (fun _ hk => hk.2) (.slice Ao39 t477.length co39)) (fun _ hk => hk.2) (.int .i64 t480)) (fun _ hk => trivial), BU⟩
        replace c33 := Bool.eq_false_iff.mpr c33; subst c33; replace H := ifF H; simp only [Option.some.injEq, Prod.mk.injEq] at H; obtain ⟨rfl, rfl, rfl⟩ := H; have hnb46 := NB456_457.out; have hnc46 := NB457_456.out; obtain ⟨hcz47_0, hcz47_1, hfz47_0, hfz47_1⟩ := bcf BK456; obtain ⟨Ao48, co48, eo48⟩ := Kd.S_slice HO_7.out; subst eo48
        go_wp2_with (first | ((with_reducible refine gate_callee (f := 68) rfl ?_); refine goesK (some 66) Try.func68 #[.slice Ao48 x7_1.length co48, .int .i64 (wrap64 (a1_1 * t460))] ?_; (with_reducible refine (spec_l7Low.calls k1 _ _ x7_1 (wrap64 (a1_1 * t460)) t477 t480 _ ?side1 ?side2 A31.out).mono ?_); (case side1 => exact U ((Kd.S_reads' HO_7.out).2.2)); (case side2 => exact (Kd.S_reads' HO_7.out).2.1); rintro e w49 ⟨v478, rfl, ho0, hb⟩; refine ⟨_, rfl, ?_⟩; have HO479 := Aside0.mk (Kd.S_lower (Kd.S_new' ho0 (Kd.S_lt (U HO_7.out))) (below_size BU)); replace HO_7 := Aside0.mk (Kd.S_elder' (U HO_7.out) (Kd.S_base ho0) hb); replace BK456 := bB BK456 hb; replace BK457 := bB BK457 hb; replace HB := BS hb; (try clear hb); (try clear ho0)) | ((with_reducible refine gate_dst (N := 11) rfl ?_); refine boxE (N := 11) (cs := #[.slice none 0 0, .int .i64 0]) (t := 27) ?_; intro gb481 hg w50 hbox hb; replace HO_7 := Aside0.mk (Kd.S_below (U HO_7.out) hb); replace HO479 := Aside0.mk (Kd.S_below (U HO479.out) hb); have BK481 := Aside0.mk (hbox); have GW481 := GS w hg; have GE481 := GS w hg; replace HB := BS hb; have NB456_481 := NL BK456 hg; have NB481_456 := NG BK456 hg; replace BK456 := bB BK456 hb; have NB457_481 := NL BK457 hg; have NB481_457 := NG BK457 hg; replace BK457 := bB BK457 hb; clear hb hbox hg; obtain ⟨Ao51, co51, eo51⟩ := Kd.S_slice HO479.out; subst eo51; have hnb52 := NB481_456.out; have hnc52 := NB456_481.out; have hnb53 := NB481_457.out; have hnc53 := NB457_481.out; obtain ⟨hcz54_0, hcz54_1, hfz54_0, hfz54_1⟩ := bcf BK481) | ((with_reducible refine gate_callee (f := 41) rfl ?_); refine goesK (some 69) Try.func41 #[.slice A0 l0.length c0, .agg #[.slice Ao51 t477.length co51, .int .i64 t480]] ?_; (with_reducible refine (spec_MoveValid.calls k1 _ _ l0 _ _ t477 t480 false _ ?side1 ?side2 ?side3 ?side4 A32.out).mono ?_); (case side1 => exact Kd.C_below HR0.out BU); (case side2 => exact HC0.out); (case side3 => refine (Kd.S_reads' (e := 23) (base := w.heap.size) (ok := fun k_ => (True ∧ some k_ ≠ (.slice Ao48 x7_1.length co48 : Value).ownBlock)) (n := t477.length) (c := co51) ?_).2.2; exact (Kd.SM (Kd.S_far (p := ⟨gb481, 1, none⟩) (Kd.S_far (p := ⟨gb481, 0, none⟩) (Kd.S_types HO479.out BK481.out (by decide)) (fun _ hk => hk.2) (.slice Ao51 t477.length co51)) (fun _ hk => hk.2) (.int .i64 t480)) (fun _ h_ => h_.1))); (case side4 => exact (Kd.S_reads' HO479.out).2.1); rintro e w55 ⟨rfl, hb⟩; refine ⟨_, rfl, ?_⟩; replace HO_7 := Aside0.mk (Kd.S_below (Kd.SM (Kd.S_far (p := ⟨gb481, 1, none⟩) (Kd.S_far (p := ⟨gb481, 0, none⟩) (Kd.S_types HO_7.out BK481.out (by decide)) (fun _ hk => hk.2) (.slice Ao51 t477.length co51)) (fun _ hk => hk.2) (.int .i64 t480)) (fun _ h_ => h_.1)) hb); replace HO479 := Aside0.mk (Kd.S_below (Kd.SM (Kd.S_far (p := ⟨gb481, 1, none⟩) (Kd.S_far (p := ⟨gb481, 0, none⟩) (Kd.S_types HO479.out BK481.out (by decide)) (fun _ hk => hk.2) (.slice Ao51 t477.length co51)) (fun _ hk => hk.2) (.int .i64 t480)) (fun _ h_ => h_.1)) hb); replace BK456 := Aside0.mk (blk_below (g := gb456) (o := .cells #[.slice A1_0 l1_0.length c1_0, .int .i64 a1_1] 27 (0, 0)) (by (with_reducible repeat (first | refine blk_drewN ?_ _ | refine blk_drew ?_ | refine blk_alloc ?_ _)); refine blk_far ?_ NB456_481.out _; (with_reducible repeat (first | refine blk_drewN ?_ _ | refine blk_drew ?_ | refine blk_alloc ?_ _)); refine blk_far ?_ NB456_481.out _; (with_reducible repeat (first | refine blk_drewN ?_ _ | refine blk_drew ?_ | refine blk_alloc ?_ _)); exact BK456.out) hb); replace BK457 := Aside0.mk (blk_below (g := gb457) (o := .cells #[.slice none 0 0, .int .i64 0] 27 (0, 0)) (by (with_reducible repeat (first | refine blk_drewN ?_ _ | refine blk_drew ?_ | refine blk_alloc ?_ _)); refine blk_far ?_ NB457_481.out _; (with_reducible repeat (first | refine blk_drewN ?_ _ | refine blk_drew ?_ | refine blk_alloc ?_ _)); refine blk_far ?_ NB457_481.out _; (with_reducible repeat (first | refine blk_drewN ?_ _ | refine blk_drew ?_ | refine blk_alloc ?_ _)); exact BK457.out) hb); replace BK481 := Aside0.mk (blk_below (g := gb481) (o := .cells #[.slice Ao51 t477.length co51, .int .i64 t480] 27 (0, 0)) (by (with_reducible repeat (first | refine blk_drewN ?_ _ | refine blk_drew ?_ | refine blk_alloc ?_ _)); refine blk_put (cs := #[.slice Ao51 t477.length co51, .int .i64 0]) ?_ 1 _ rfl; (with_reducible repeat (first | refine blk_drewN ?_ _ | refine blk_drew ?_ | refine blk_alloc ?_ _)); refine blk_put (cs := #[.slice none 0 0, .int .i64 0]) ?_ 0 _ rfl; (with_reducible repeat (first | refine blk_drewN ?_ _ | refine blk_drew ?_ | refine blk_alloc ?_ _)); exact BK481.out) hb); replace HB := BS hb; (try clear hb); obtain ⟨hcz56_0, hcz56_1, hfz56_0, hfz56_1⟩ := bcf BK457))
        refine bodyPost_ret (results_ct rfl _ _ gb457 27 #[.slice none 0 0, .int .i64 0] (0, 0) _ rfl (by (with_reducible repeat (first | refine blk_drewN ?_ _ | refine blk_drew ?_ | refine blk_alloc ?_ _)); refine blk_put (cs := #[.slice none 0 0, .int .i64 0]) ?_ 1 _ rfl; (with_reducible repeat (first | refine blk_drewN ?_ _ | refine blk_drew ?_ | refine blk_alloc ?_ _)); refine blk_put (cs := #[.slice none 0 0, .int .i64 0]) ?_ 0 _ rfl; (with_reducible repeat (first | refine blk_drewN ?_ _ | refine blk_drew ?_ | refine blk_alloc ?_ _)); exact BK457.out) Try.underlying27 rfl (by kernel_rfl)) rfl ?_
        exact ⟨_, eR, by first | exact Kd.S_nil _ _ _ _ _ | exact Kd.N_nil _ _ _ _ _ | exact Kd.V_nil _ _ _ _ _ | exact Kd.Q_nil _ _ _ _ _ | exact Kd.R_nil _ _ _ _ _, BU⟩
  replace c4 := Bool.eq_false_iff.mpr c4; subst c4; replace H := ifF H; simp only [Option.some.injEq, Prod.mk.injEq] at H; obtain ⟨rfl, rfl, rfl⟩ := H; go_enter Try.func39, Try.ntmps39
  go_wp2_with (first | ((with_reducible refine gate_dst (N := 3) rfl ?_); refine boxE (N := 3) (cs := #[.slice A1_0 l1_0.length c1_0, .int .i64 a1_1]) (t := 27) ?_; intro gb456 hg w57 hbox hb; have BK456 := Aside0.mk (hbox); have GW456 := GS w hg; have GE456 := GS w hg; replace HB := BS hb; clear hb hbox hg) | ((with_reducible refine gate_dst (N := 4) rfl ?_); refine boxE (N := 4) (cs := #[.slice none 0 0, .int .i64 0]) (t := 27) ?_; intro gb457 hg w58 hbox hb; have BK457 := Aside0.mk (hbox); have GW457 := GS w hg; have GE457 := GS w hg; replace HB := BS hb; have NB456_457 := NL BK456 hg; have NB457_456 := NG BK456 hg; replace BK456 := bB BK456 hb; clear hb hbox hg; have hnb59 := NB456_457.out; have hnc59 := NB457_456.out; obtain ⟨hcz60_0, hcz60_1, hfz60_0, hfz60_1⟩ := bcf BK456) | ((with_reducible refine gate_callee (f := 41) rfl ?_); refine goesK (some 14) Try.func41 #[.slice A0 l0.length c0, .agg #[.slice A1_0 l1_0.length c1_0, .int .i64 a1_1]] ?_; (with_reducible refine (spec_MoveValid.calls k _ _ l0 _ _ l1_0 a1_1 false _ ?side1 ?side2 ?side3 ?side4 A3.out).mono ?_); (case side1 => exact U (Kd.C_below HR0.out HB.out)); (case side2 => exact HC0.out); (case side3 => exact U (Kd.C_below HR1_0.out HB.out)); (case side4 => exact HC1_0.out); rintro e w61 ⟨rfl, hb⟩; refine ⟨_, rfl, ?_⟩; replace BK456 := bB BK456 hb; replace BK457 := bB BK457 hb; replace HB := BS hb; (try clear hb); obtain ⟨hcz62_0, hcz62_1, hfz62_0, hfz62_1⟩ := bcf BK457))
  refine bodyPost_ret (results_ct rfl _ _ gb457 27 #[.slice none 0 0, .int .i64 0] (0, 0) _ rfl (by (with_reducible repeat (first | refine blk_drewN ?_ _ | refine blk_drew ?_ | refine blk_alloc ?_ _)); refine blk_put (cs := #[.slice none 0 0, .int .i64 0]) ?_ 1 _ rfl; (with_reducible repeat (first | refine blk_drewN ?_ _ | refine blk_drew ?_ | refine blk_alloc ?_ _)); refine blk_put (cs := #[.slice none 0 0, .int .i64 0]) ?_ 0 _ rfl; (with_reducible repeat (first | refine blk_drewN ?_ _ | refine blk_drew ?_ | refine blk_alloc ?_ _)); exact BK457.out) Try.underlying27 rfl (by kernel_rfl)) rfl ?_
  exact ⟨_, eR, by first | exact Kd.S_nil _ _ _ _ _ | exact Kd.N_nil _ _ _ _ _ | exact Kd.V_nil _ _ _ _ _ | exact Kd.Q_nil _ _ _ _ _ | exact Kd.R_nil _ _ _ _ _, BU⟩

end Go.Proofs.Ytnbeeogmaamgdaa.PFnMoveBack
