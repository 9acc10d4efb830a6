-- Written by a program of this session (wip/print2.py): the functions that the law reaches, plain, and the walks.
import Derived.Test.YtnbeeogmaamgdaaPFnMoveMulx0
import Derived.Test.YtnbeeogmaamgdaaPFnMoveMulx1
namespace Go.Proofs.Ytnbeeogmaamgdaa.PFnMoveMul
open Go.RowKit Go.Proofs.YtnbeeogmaamgdaaW.PrintWords Go.Proofs.YtnbeeogmaamgdaaW.PrintLast Go.Proofs.YtnbeeogmaamgdaaW.PrintMore
attribute [local go_sem] max2_int min2_int max_two min_two max_three min_three max_four min_four   -- for this text's walks alone
set_option linter.unusedVariables false
set_option linter.unusedSimpArgs false

/-! ### impl_column: function 59 -/
def impl_column.l0 : Nat → Int → List Int → List (List Int) → Int → Int → Option (List Int)
  | 0, _, _, _, _, _ => none
  | k + 1, x1, x5, x10, x11, x12 => if x12 < x11 then (if 0 ≤ x12 then (if x12 < (x10.length : Int) then (if 0 ≤ x1 then (if x1 < ((rd_L1 x10 x12).length : Int) then (if x5.length < 17592186044416 then (impl_column.l0 k x1 (x5 ++ [rd (rd_L1 x10 x12) x1]) x10 x11 (wrap64 (x12 + 1))) else (none)) else (none)) else (none)) else (none)) else (none)) else (some x5)
def impl_column.f (k : Nat) (l0_0 : List (List Int)) (a0_1 : Int) (a1 : Int) : Option (List Int) := impl_column.l0 k a1 (([] : List Int)) l0_0 (l0_0.length : Int) 0
theorem impl_column.mono_l : ∀ k, (∀ y0 y1 y2 y3 y4, LeO (impl_column.l0 k y0 y1 y2 y3 y4) (impl_column.l0 (k + 1) y0 y1 y2 y3 y4))
  | 0 => fun _ _ _ _ _ r h => by simp [impl_column.l0] at h
  | k + 1 => by
    have ih0 := impl_column.mono_l k
    · intro y0 y1 y2 y3 y4
      unfold impl_column.l0
      repeat' first
      | (with_reducible exact ih0 _ _ _ _ _)
      | (with_reducible exact LeO.refl _)
      | (with_reducible exact LeO.none _)
      | (with_reducible refine LeO.ite ?_ ?_)
      | (with_reducible refine LeO.bind ?_ (fun _ => ?_))
      | exact ih0 _ _ _ _ _
      | exact LeO.none _
      | refine LeO.ite ?_ ?_
      | refine LeO.bind ?_ (fun _ => ?_)
theorem impl_column.mono : ∀ a0 a1 a2 k, LeO (impl_column.f k a0 a1 a2) (impl_column.f (k + 1) a0 a1 a2) := by
  intro a0 a1 a2 k
  have ih0 := impl_column.mono_l k
  unfold impl_column.f
  repeat' first
      | (with_reducible exact ih0 _ _ _ _ _)
      | (with_reducible exact LeO.refl _)
      | (with_reducible exact LeO.none _)
      | (with_reducible refine LeO.ite ?_ ?_)
      | (with_reducible refine LeO.bind ?_ (fun _ => ?_))
      | exact ih0 _ _ _ _ _
      | exact LeO.none _
      | refine LeO.ite ?_ ?_
      | refine LeO.bind ?_ (fun _ => ?_)
set_option maxHeartbeats 8000000 in
set_option maxRecDepth 100000 in
theorem impl_column.calls (k : Nat) (A0_0 : Option Addr) (c0_0 : Nat) (l0_0 : List (List Int)) (a0_1 : Int) (a1 : Int) (r : List Int) (w : World) (hr0_0 : Kd.C (Kd.slice 3 (Kd.int .i64)) w A0_0 l0_0.length l0_0) (hc0_0 : l0_0.length ≤ c0_0) (h : impl_column.f k l0_0 a0_1 a1 = some r) :
    Calls Try.prog 59 #[.agg #[.slice A0_0 l0_0.length c0_0, .int .i64 a0_1], .int .i64 a1] w fun e w' => ∃ v0_ : Value, e = .returned (v0_) ∧ Kd.R (Kd.int .i64) 3 w' w.heap.size (fun _ => True) v0_ r ∧ Below w.heap.size w w' := by
  have hu27 := Try.underlying27; have HR0_0 := Aside0.mk hr0_0; have HC0_0 := Aside0.mk hc0_0; clear hr0_0 hc0_0; have HB := Aside0.mk (Below.refl w.heap.size w); unfold impl_column.f at h; have H := h; clear h; obtain ⟨y116, hy116⟩ : ∃ y_ : List Int, y_ = (([] : List Int)) := ⟨_, rfl⟩; replace H : (impl_column.l0 k a1 y116 l0_0 (l0_0.length : Int) 0) = some r := rH hy116 H; have Ny116 := Aside0.mk hy116; clear hy116; have H' := Aside0.mk H; clear H; go_enter Try.func59, Try.ntmps59
  go_wp2_with (first | ((with_reducible refine gate_dst (N := 2) rfl ?_); refine boxE (N := 2) (cs := #[.slice A0_0 l0_0.length c0_0, .int .i64 a0_1]) (t := 27) ?_; intro gb115 hg w3 hbox hb; have BK115 := Aside0.mk (hbox); have GW115 := GS w hg; have GE115 := GS w hg; replace HB := BS hb; clear hb hbox hg) | ((with_reducible refine gate_dst (N := 8) rfl ?_); refine Kd.R_lit (Kd.int .i64) _ 3 ?hg (N := 8) ?hd (xs := ([] : List Int)) (inner := []) (ok := fun _ => True) (okp := fun _ => True) ?hr ?hp (fun _ hk => hk) trivial (Below.refl _ _) (Nat.le_refl _) (by simp) ?_; (case hd => rfl); (case hg => rfl); (case hr => first | (go_simp; done) | (go_simp; rfl)); (case hp => exact (Reps.none _ _)); intro v117 w4 ho5 hb hg_ hnew_; clear hg_ hnew_; (first | rw [← Ny116.out] at ho5 | (simp only [Int.reduceToNat] at ho5; rw [← Ny116.out] at ho5)); have HO118 := Aside0.mk (Kd.R_lower ho5 (below_size BU)); replace BK115 := bB BK115 hb; replace HB := BS hb; clear hb ho5; obtain ⟨hcz6_0, hcz6_1, hfz6_0, hfz6_1⟩ := bcf BK115))
  go_loopg [5, 12] k (fun kq v5 v12 w' => ∃ (x5_1 : List Int) (x12_1 : Int), v12 = .int .i64 x12_1 ∧ Aside0 (impl_column.l0 kq a1 x5_1 l0_0 (l0_0.length : Int) x12_1 = some r) ∧ Aside0 (kq ≤ k) ∧ Aside0 (Kd.R (Kd.int .i64) 3 w' w.heap.size (fun _ => True) v5 x5_1) ∧ Aside0 (w'.heap[gb115]? = some (.cells #[(.slice A0_0 l0_0.length c0_0), .int .i64 a0_1] 27 (0, 0))) ∧ Aside0 (Below w.heap.size w w'))
  case atStart => exact ⟨(y116), (0), sR, H', ⟨Nat.le_refl _⟩, ⟨U HO118.out⟩, ⟨U BK115.out⟩, ⟨BU⟩⟩
  case round =>
    clear H'; (try clear hcz6_0); (try clear hcz6_1); (try clear hfz6_0); (try clear hfz6_1); obtain ⟨x5_1, x12_1, rfl, HA, HK1, HO_5, BK115, HB⟩ := hrel; cases gk with
    | zero => exact absurd HA.out (by simp [impl_column.l0])
    | succ k1 =>
      have H := HA.out; clear HA; simp only [impl_column.l0] at H
      by_cases c7 : x12_1 < (l0_0.length : Int)
      · rw [if_pos c7] at H
        have c7b0 : decide (x12_1 < (l0_0.length : Int)) = true := decide_eq_true c7; clear c7; obtain ⟨c8, H⟩ := ifN H; have c8b0 : decide (0 ≤ x12_1) = true := decide_eq_true c8; clear c8; obtain ⟨c9, H⟩ := ifN H; have c9b0 : decide (x12_1 < (l0_0.length : Int)) = true := decide_eq_true c9; clear c9; obtain ⟨c10, H⟩ := ifN H; have c10b0 : decide (0 ≤ a1) = true := decide_eq_true c10; clear c10; obtain ⟨c11, H⟩ := ifN H; have c11b0 : decide (a1 < ((rd_L1 l0_0 x12_1).length : Int)) = true := decide_eq_true c11; clear c11; obtain ⟨c12, H⟩ := ifN H; have LMc12 := Aside0.mk c12; clear c12; obtain ⟨y121, hy121⟩ : ∃ y_ : List Int, y_ = (x5_1 ++ [rd (rd_L1 l0_0 x12_1) a1]) := ⟨_, rfl⟩; replace H : (impl_column.l0 k1 a1 y121 l0_0 (l0_0.length : Int) (wrap64 (x12_1 + 1))) = some r := rH hy121 H; have Ny121 := Aside0.mk hy121; clear hy121; have H' := Aside0.mk H; clear H; have p119 : 0 ≤ (x12_1 : Int) := oD; have q119 : x12_1 < (l0_0.length : Int) := oD; obtain ⟨ad119, A119_0, c119_0, e119, hx119_0, hl119_0, hi119_0⟩ := at_L1 HR0_0.out x12_1 p119 q119; cases e119; replace hx119_0 := (HB.out.cell (World.block_lt_of_cell? w _ hx119_0)).trans hx119_0; have HR119_0 := Aside0.mk hi119_0; have HC119_0 := Aside0.mk hl119_0; clear hi119_0 hl119_0; replace p119 := eq_true p119; replace q119 := eq_true q119; have p120 : 0 ≤ (a1 : Int) := oD; have q120 : a1 < ((rd_L1 l0_0 x12_1).length : Int) := oD; obtain ⟨ad120, e120, hx120_0⟩ := Kd.at_int HR119_0.out a1 p120 q120; cases e120; replace hx120_0 := (HB.out.cell (World.block_lt_of_cell? w _ hx120_0)).trans hx120_0; replace p120 := eq_true p120; replace q120 := eq_true q120
        go_wp2_with (first | ((with_reducible refine gate_builtin (b := .append) (xs := #[.tmp 16, .tmp 21]) rfl ?_); at_builtin; refine Kd.R_append (Kd.int .i64) (w0 := w) w.heap.size rfl (.tmp 16) (.tmp 21) 23 3 (.int .i64 0) 8 rfl Try.underlying23 info3 rfl (by decide) (by omega) u5 x5_1 (rd (rd_L1 l0_0 x12_1) a1) [.int .i64 (rd (rd_L1 l0_0 x12_1) a1)] (fun _ => True) (fun _ => False) rfl rfl ?aP (fun _ hk => hk.elim) ?aF ?aO ?aB ?aS ?aL ?_; (case aP => exact rfl); (case aB => exact BU); (case aF => exact (fun _ _ => trivial)); (case aO => exact (U HO_5.out)); (case aS => exact (below_size BU)); (case aL => have := LMc12.out; omega); intro v122 w13 ho hb hg hat; rw [← Ny121.out] at ho; have n0_ := bG BK115 hg (Kd.R_ne HO_5.out BK115.out (by decide)); have n1_ := Aside0.mk (hb); have n2_ := Aside0.mk (ho); clear BK115; try clear HB; clear HO_5; have BK115 := n0_; have HB := n1_; have HO123 := n2_; clear n0_ n1_ n2_; clear ho hb hg hat))
        go_roundg k1
        case measure => have := HK1.out; omega
        case rel => exact ⟨(y121), (wrap64 (x12_1 + 1)), sR, H', ⟨by have := HK1.out; omega⟩, ⟨U HO123.out⟩, ⟨U BK115.out⟩, ⟨BU⟩⟩
      rw [if_neg c7] at H; have c7b0 : decide (x12_1 < (l0_0.length : Int)) = false := decide_eq_false c7; clear c7; obtain rfl := Option.some.inj H
      go_wp2
      go_ret
      exact ⟨_, eR, U HO_5.out, BU⟩

/-! ### impl_gcd: function 63 -/
mutual
def impl_gcd.l0 : Nat → Int → List Int → Int → Int → Option (Int)
  | 0, _, _, _, _ => none
  | k + 1, x3, x6, x7, x8 => if x8 < x7 then (if 0 ≤ x8 then (if x8 < (x6.length : Int) then ((impl_size.f (rd x6 x8)).bind fun t125 => (impl_gcd.l1 k x3 t125 x6 x7 x8)) else (none)) else (none)) else (some x3)
def impl_gcd.l1 : Nat → Int → Int → List Int → Int → Int → Option (Int)
  | 0, _, _, _, _, _ => none
  | k + 1, x3, x5, x6, x7, x8 => if x5 = 0 then (impl_gcd.l0 k x3 x6 x7 (wrap64 (x8 + 1))) else (impl_gcd.l1 k x5 (Int.tmod x3 x5) x6 x7 x8)
end
def impl_gcd.f (k : Nat) (l0 : List Int) : Option (Int) := impl_gcd.l0 k 0 l0 (l0.length : Int) 0
theorem impl_gcd.mono_l : ∀ k, (∀ y0 y1 y2 y3, LeO (impl_gcd.l0 k y0 y1 y2 y3) (impl_gcd.l0 (k + 1) y0 y1 y2 y3)) ∧ (∀ y0 y1 y2 y3 y4, LeO (impl_gcd.l1 k y0 y1 y2 y3 y4) (impl_gcd.l1 (k + 1) y0 y1 y2 y3 y4))
  | 0 => ⟨fun _ _ _ _ r h => by simp [impl_gcd.l0] at h, fun _ _ _ _ _ r h => by simp [impl_gcd.l1] at h⟩
  | k + 1 => by
    obtain ⟨ih0, ih1⟩ := impl_gcd.mono_l k
    refine ⟨?_, ?_⟩ <;> intros <;> (first | unfold impl_gcd.l0 | unfold impl_gcd.l1) <;> (repeat' first
      | (with_reducible exact ih0 _ _ _ _)
      | (with_reducible exact ih1 _ _ _ _ _)
      | (with_reducible exact LeO.refl _)
      | (with_reducible exact LeO.none _)
      | (with_reducible refine LeO.ite ?_ ?_)
      | (with_reducible refine LeO.bind ?_ (fun _ => ?_))
      | exact ih0 _ _ _ _
      | exact ih1 _ _ _ _ _
      | exact LeO.none _
      | refine LeO.ite ?_ ?_
      | refine LeO.bind ?_ (fun _ => ?_))
theorem impl_gcd.mono : ∀ a0 k, LeO (impl_gcd.f k a0) (impl_gcd.f (k + 1) a0) := by
  intro a0 k
  obtain ⟨ih0, ih1⟩ := impl_gcd.mono_l k
  unfold impl_gcd.f
  repeat' first
      | (with_reducible exact ih0 _ _ _ _)
      | (with_reducible exact ih1 _ _ _ _ _)
      | (with_reducible exact LeO.refl _)
      | (with_reducible exact LeO.none _)
      | (with_reducible refine LeO.ite ?_ ?_)
      | (with_reducible refine LeO.bind ?_ (fun _ => ?_))
      | exact ih0 _ _ _ _
      | exact ih1 _ _ _ _ _
      | exact LeO.none _
      | refine LeO.ite ?_ ?_
      | refine LeO.bind ?_ (fun _ => ?_)
set_option maxHeartbeats 8000000 in
set_option maxRecDepth 100000 in
theorem impl_gcd.calls (k : Nat) (A0 : Option Addr) (c0 : Nat) (l0 : List Int) (r : Int) (w : World) (hr0 : Kd.C (Kd.int .i64) w A0 l0.length l0) (hc0 : l0.length ≤ c0) (h : impl_gcd.f k l0 = some r) :
    Calls Try.prog 63 #[.slice A0 l0.length c0] w fun e w' => e = .returned (.int .i64 r) ∧ Below w.heap.size w w' := by
  have HR0 := Aside0.mk hr0; have HC0 := Aside0.mk hc0; clear hr0 hc0; have HB := Aside0.mk (Below.refl w.heap.size w); unfold impl_gcd.f at h; have H := h; clear h; have H' := Aside0.mk H; clear H; go_enter Try.func63, Try.ntmps63
  go_wp2
  repeat (go_quiet (fail); try go_wp2)
  go_loopg [3, 8] k (fun kq v3 v8 w' => ∃ (x3_1 : Int) (x8_1 : Int), v3 = .int .i64 x3_1 ∧ v8 = .int .i64 x8_1 ∧ Aside0 (impl_gcd.l0 kq x3_1 l0 (l0.length : Int) x8_1 = some r) ∧ Aside0 (kq ≤ k) ∧ Aside0 (Below w.heap.size w w'))
  case atStart => exact ⟨(0), (0), sR, sR, H', ⟨Nat.le_refl _⟩, ⟨BU⟩⟩
  case round =>
    clear H'; obtain ⟨x3_1, x8_1, rfl, rfl, HA, HK1, HB⟩ := hrel; cases gk with
    | zero => exact absurd HA.out (by simp [impl_gcd.l0])
    | succ k1 =>
      have H := HA.out; clear HA; simp only [impl_gcd.l0] at H
      by_cases c2 : x8_1 < (l0.length : Int)
      · rw [if_pos c2] at H
        have c2b0 : decide (x8_1 < (l0.length : Int)) = true := decide_eq_true c2; clear c2; obtain ⟨c3, H⟩ := ifN H; have c3b0 : decide (0 ≤ x8_1) = true := decide_eq_true c3; clear c3; obtain ⟨c4, H⟩ := ifN H; have c4b0 : decide (x8_1 < (l0.length : Int)) = true := decide_eq_true c4; clear c4; obtain ⟨t125, A5, H⟩ := bnd H; have H' := Aside0.mk H; clear H; have p124 : 0 ≤ (x8_1 : Int) := oD; have q124 : x8_1 < (l0.length : Int) := oD; obtain ⟨ad124, e124, hx124_0⟩ := Kd.at_int HR0.out x8_1 p124 q124; cases e124; replace hx124_0 := (HB.out.cell (World.block_lt_of_cell? w _ hx124_0)).trans hx124_0; replace p124 := eq_true p124; replace q124 := eq_true q124
        go_wp2_with (first | (go_at_call 60; (with_reducible refine (impl_size.calls (rd l0 x8_1) t125 _ A5.out).mono ?_); rintro e w6 ⟨rfl, hb⟩; replace HB := BS hb; (try clear hb)))
        repeat (go_quiet (first | (go_at_call 60; (with_reducible refine (impl_size.calls (rd l0 x8_1) t125 _ A5.out).mono ?_); rintro e w6 ⟨rfl, hb⟩; replace HB := BS hb; (try clear hb))); try go_wp2_with (first | (go_at_call 60; (with_reducible refine (impl_size.calls (rd l0 x8_1) t125 _ A5.out).mono ?_); rintro e w6 ⟨rfl, hb⟩; replace HB := BS hb; (try clear hb))))
        go_loopg [3, 5] k1 (fun kq v3 v5 w' => ∃ (x3_2 : Int) (x5_2 : Int), v3 = .int .i64 x3_2 ∧ v5 = .int .i64 x5_2 ∧ Aside0 (impl_gcd.l1 kq x3_2 x5_2 l0 (l0.length : Int) x8_1 = some r) ∧ Aside0 (kq ≤ k1) ∧ Aside0 (Below w.heap.size w w'))
        case atStart => exact ⟨(x3_1), (t125), sR, sR, H', ⟨Nat.le_refl _⟩, ⟨BU⟩⟩
        case round =>
          clear H'; (try clear c2); (try clear c2b0); (try clear c3); (try clear c3b0); (try clear c4); (try clear c4b0); (try clear hx124_0); (try clear p124); (try clear q124); obtain ⟨x3_2, x5_2, rfl, rfl, HA, HK2, HB⟩ := hrel; cases gk with
          | zero => exact absurd HA.out (by simp [impl_gcd.l1])
          | succ k2 =>
            have H := HA.out; clear HA; simp only [impl_gcd.l1] at H
            by_cases c7 : x5_2 = 0
            · rw [if_pos c7] at H
              have c7b0 : (x5_2 == 0) = true := beq_iff_eq.mpr c7; have c7b1 : (x5_2 != 0) = false := bne_eq_false_iff_eq.mpr c7; clear c7; have H' := Aside0.mk H; clear H
              go_wp2
              repeat (go_quiet (fail); try go_wp2)
              go_roundg k2
              case measure => have := HK1.out; have := HK2.out; omega
              case rel => exact ⟨(x3_2), (wrap64 (x8_1 + 1)), sR, sR, H', ⟨by have := HK1.out; have := HK2.out; omega⟩, ⟨BU⟩⟩
            rw [if_neg c7] at H; have c7b0 : (x5_2 == 0) = false := beq_eq_false_iff_ne.mpr c7; have c7b1 : (x5_2 != 0) = true := bne_iff_ne.mpr c7; have H' := Aside0.mk H; clear H
            go_wp2
            repeat (go_quiet (fail); try go_wp2)
            go_roundg k2
            case measure => have := HK1.out; have := HK2.out; omega
            case rel => exact ⟨(x5_2), (Int.tmod x3_2 x5_2), sR, sR, H', ⟨by have := HK1.out; have := HK2.out; omega⟩, ⟨BU⟩⟩
      rw [if_neg c2] at H; have c2b0 : decide (x8_1 < (l0.length : Int)) = false := decide_eq_false c2; clear c2; obtain rfl := Option.some.inj H
      go_wp2
      repeat (go_quiet (fail); try go_wp2)
      go_ret
      exact ⟨eR, BU⟩

end Go.Proofs.Ytnbeeogmaamgdaa.PFnMoveMul
