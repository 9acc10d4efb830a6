-- Written by a program of this session (wip/print2.py): the functions that the law reaches, plain, and the walks.
import Derived.Test.YtpjgcjkodmkemaaPFnManyx0
import Derived.Test.YtpjgcjkodmkemaaPFnManyx5
import Derived.Test.YtpjgcjkodmkemaaPFnManyx8
namespace Go.Proofs.Ytpjgcjkodmkemaa.PFnMany
open Go.RowKit Go.Proofs.YtpjgcjkodmkemaaW.PrintWords Go.Proofs.YtpjgcjkodmkemaaW.PrintLast Go.Proofs.YtpjgcjkodmkemaaW.PrintMore
attribute [local go_sem] max2_int min2_int max_two min_two max_three min_three max_four min_four   -- for this text's walks alone
set_option linter.unusedVariables false
set_option linter.unusedSimpArgs false

/-! ### spec_l5Plain: function 50 -/
mutual
def spec_l5Plain.l0 : Nat → List Int → Int → Int → Bool → Int → Option (List Int)
  | 0, _, _, _, _, _ => none
  | k + 1, x0, x3, x4, x5, x6 => if x6 < (x0.length : Int) then (if 0 ≤ x6 then ((spec_l1Gcd.f k x3 (rd x0 x6)).bind fun t286 => (if (rd x0 x6) = 0 then (spec_l5Plain.j1 k x0 t286 x4 x5 x6 false) else (spec_l5Plain.j1 k x0 t286 x4 x5 x6 x5))) else (none)) else (spec_l5Plain.l1 k x0 x3 x4 (([] : List Int)) 0)
def spec_l5Plain.j1 : Nat → List Int → Int → Int → Bool → Int → Bool → Option (List Int)
  | 0, _, _, _, _, _, _ => none
  | k + 1, x0, x3, x4, x5, x6, x28 => if x28 = true then (if 0 ≤ x6 then (if x6 < (x0.length : Int) then (if (rd x0 x6) < 0 then (spec_l5Plain.l0 k x0 x3 (-1) false (wrap64 (x6 + 1))) else (spec_l5Plain.l0 k x0 x3 x4 false (wrap64 (x6 + 1)))) else (none)) else (none)) else (spec_l5Plain.l0 k x0 x3 x4 x5 (wrap64 (x6 + 1)))
def spec_l5Plain.l1 : Nat → List Int → Int → Int → List Int → Int → Option (List Int)
  | 0, _, _, _, _, _ => none
  | k + 1, x0, x3, x4, x7, x8 => if x8 < (x0.length : Int) then (if 0 ≤ x8 then (if x3 = 0 then (none) else (if x7.length < 17592186044416 then (spec_l5Plain.l1 k x0 x3 x4 (x7 ++ [wrap64 (Int.tdiv (wrap64 (x4 * (rd x0 x8))) x3)]) (wrap64 (x8 + 1))) else (none))) else (none)) else (some x7)
end
def spec_l5Plain.f (k : Nat) (l0 : List Int) : Option (List Int) := spec_l5Plain.l0 k l0 0 1 true 0
theorem spec_l5Plain.mono_l : ∀ k, (∀ y0 y1 y2 y3 y4, LeO (spec_l5Plain.l0 k y0 y1 y2 y3 y4) (spec_l5Plain.l0 (k + 1) y0 y1 y2 y3 y4)) ∧ (∀ y0 y1 y2 y3 y4 y5, LeO (spec_l5Plain.j1 k y0 y1 y2 y3 y4 y5) (spec_l5Plain.j1 (k + 1) y0 y1 y2 y3 y4 y5)) ∧ (∀ y0 y1 y2 y3 y4, LeO (spec_l5Plain.l1 k y0 y1 y2 y3 y4) (spec_l5Plain.l1 (k + 1) y0 y1 y2 y3 y4))
  | 0 => ⟨fun _ _ _ _ _ r h => by simp [spec_l5Plain.l0] at h, fun _ _ _ _ _ _ r h => by simp [spec_l5Plain.j1] at h, fun _ _ _ _ _ r h => by simp [spec_l5Plain.l1] at h⟩
  | k + 1 => by
    obtain ⟨ih0, ih1, ih2⟩ := spec_l5Plain.mono_l k
    refine ⟨?_, ?_, ?_⟩ <;> intros <;> (first | unfold spec_l5Plain.l0 | unfold spec_l5Plain.j1 | unfold spec_l5Plain.l1) <;> (repeat' first
      | (with_reducible exact ih0 _ _ _ _ _)
      | (with_reducible exact ih1 _ _ _ _ _ _)
      | (with_reducible exact ih2 _ _ _ _ _)
      | (with_reducible exact spec_l1Gcd.mono _ _ _)
      | (with_reducible exact LeO.refl _)
      | (with_reducible exact LeO.none _)
      | (with_reducible refine LeO.ite ?_ ?_)
      | (with_reducible refine LeO.bind ?_ (fun _ => ?_))
      | exact ih0 _ _ _ _ _
      | exact ih1 _ _ _ _ _ _
      | exact ih2 _ _ _ _ _
      | exact spec_l1Gcd.mono _ _ _
      | exact LeO.none _
      | refine LeO.ite ?_ ?_
      | refine LeO.bind ?_ (fun _ => ?_))
theorem spec_l5Plain.mono : ∀ a0 k, LeO (spec_l5Plain.f k a0) (spec_l5Plain.f (k + 1) a0) := by
  intro a0 k
  obtain ⟨ih0, ih1, ih2⟩ := spec_l5Plain.mono_l k
  unfold spec_l5Plain.f
  repeat' first
      | (with_reducible exact ih0 _ _ _ _ _)
      | (with_reducible exact ih1 _ _ _ _ _ _)
      | (with_reducible exact ih2 _ _ _ _ _)
      | (with_reducible exact spec_l1Gcd.mono _ _ _)
      | (with_reducible exact LeO.refl _)
      | (with_reducible exact LeO.none _)
      | (with_reducible refine LeO.ite ?_ ?_)
      | (with_reducible refine LeO.bind ?_ (fun _ => ?_))
      | exact ih0 _ _ _ _ _
      | exact ih1 _ _ _ _ _ _
      | exact ih2 _ _ _ _ _
      | exact spec_l1Gcd.mono _ _ _
      | exact LeO.none _
      | refine LeO.ite ?_ ?_
      | refine LeO.bind ?_ (fun _ => ?_)
set_option maxHeartbeats 8000000 in
set_option maxRecDepth 100000 in
theorem spec_l5Plain.calls (k : Nat) (A0 : Option Addr) (c0 : Nat) (l0 : List Int) (r : List Int) (w : World) (hr0 : Kd.C (Kd.int .i64) w A0 l0.length l0) (hc0 : l0.length ≤ c0) (h : spec_l5Plain.f k l0 = some r) :
    Calls Try.prog 50 #[.slice A0 l0.length c0] w fun e w' => ∃ v0_ : Value, e = .returned (v0_) ∧ Kd.R (Kd.int .i64) 3 w' w.heap.size (fun _ => True) v0_ r ∧ Below w.heap.size w w' := by
  have HR0 := Aside0.mk hr0; have HC0 := Aside0.mk hc0; clear hr0 hc0; have HB := Aside0.mk (Below.refl w.heap.size w); unfold spec_l5Plain.f at h; have H := h; clear h; have H' := Aside0.mk H; clear H; go_enter Try.func50, Try.ntmps50
  go_wp2
  go_loopg [3, 4, 5, 6] k (fun kq v3 v4 v5 v6 w' => ∃ (x3_1 : Int) (x4_1 : Int) (x5_1 : Bool) (x6_1 : Int), v3 = .int .i64 x3_1 ∧ v4 = .int .i64 x4_1 ∧ v5 = .bool x5_1 ∧ v6 = .int .i64 x6_1 ∧ Aside0 (spec_l5Plain.l0 kq l0 x3_1 x4_1 x5_1 x6_1 = some r) ∧ Aside0 (kq ≤ k) ∧ Aside0 (Below w.heap.size w w'))
  case atStart => exact ⟨(0), (1), (true), (0), sR, sR, sR, sR, H', ⟨Nat.le_refl _⟩, ⟨BU⟩⟩
  case round =>
    clear H'; obtain ⟨x3_1, x4_1, x5_1, x6_1, rfl, rfl, rfl, rfl, HA, HK1, HB⟩ := hrel; cases gk with
    | zero => exact absurd HA.out (by simp [spec_l5Plain.l0])
    | succ k1 =>
      have H := HA.out; clear HA; simp only [spec_l5Plain.l0] at H
      by_cases c2 : x6_1 < (l0.length : Int)
      · rw [if_pos c2] at H
        have c2b0 : decide (x6_1 < (l0.length : Int)) = true := decide_eq_true c2; clear c2; obtain ⟨c3, H⟩ := ifN H; have c3b0 : decide (0 ≤ x6_1) = true := decide_eq_true c3; clear c3; obtain ⟨t286, A4, H⟩ := bnd H; have HC5 := Aside0.mk H; clear H; have p285 : 0 ≤ (x6_1 : Int) := oD; have q285 : x6_1 < (l0.length : Int) := oD; obtain ⟨ad285, e285, hx285_0⟩ := Kd.at_int HR0.out x6_1 p285 q285; cases e285; replace hx285_0 := (HB.out.cell (World.block_lt_of_cell? w _ hx285_0)).trans hx285_0; replace p285 := eq_true p285; replace q285 := eq_true q285
        go_upto_region 8 with (first | ((with_reducible refine gate_callee (f := 68) rfl ?_); refine goesK (some 20) Try.func68 #[.int .i64 x3_1, .int .i64 (rd l0 x6_1)] ?_; (with_reducible refine (spec_l1Gcd.calls k1 x3_1 (rd l0 x6_1) t286 _ A4.out).mono ?_); rintro e w6 ⟨rfl, hb⟩; refine ⟨_, rfl, ?_⟩; replace HB := BS hb; (try clear hb)))
        (try simp only [Act.put, List.setIfInBounds_toArray, List.set_cons_zero, List.set_cons_succ])
        go_cut [28] (fun v28 wc => ∃ (kq : Nat) (x28_4 : Bool), v28 = .bool x28_4 ∧ Aside0 (spec_l5Plain.j1 kq l0 t286 x4_1 x5_1 x6_1 x28_4 = some r) ∧ Aside0 (kq ≤ k1) ∧ Aside0 (Below w.heap.size w wc))
        case first =>
          have H := HC5.out; clear HC5
          by_cases c7 : (rd l0 x6_1) = 0
          · rw [if_pos c7] at H
            have c7b0 : ((rd l0 x6_1) == 0) = true := beq_iff_eq.mpr c7; have c7b1 : ((rd l0 x6_1) != 0) = false := bne_eq_false_iff_eq.mpr c7; clear c7
            (first | rw [c7b0] | (simp only [i64_w, i32_w]; rw [c7b0]) | skip)
            have H' := Aside0.mk H; clear H; have p287 : 0 ≤ (x6_1 : Int) := oD; have q287 : x6_1 < (l0.length : Int) := oD; obtain ⟨ad287, e287, hx287_0⟩ := Kd.at_int HR0.out x6_1 p287 q287; obtain rfl : ad285 = ad287 := (by injection e287); replace hx287_0 := (HB.out.cell (World.block_lt_of_cell? w _ hx287_0)).trans hx287_0; replace p287 := eq_true p287; replace q287 := eq_true q287
            go_wp2
            go_meet
            case rel => exact ⟨_, (false), sR, H', ⟨by have := HK1.out; first | omega | exact Nat.le_refl _⟩, ⟨BU⟩⟩
          rw [if_neg c7] at H; have c7b0 : ((rd l0 x6_1) == 0) = false := beq_eq_false_iff_ne.mpr c7; have c7b1 : ((rd l0 x6_1) != 0) = true := bne_iff_ne.mpr c7
          (first | rw [c7b0] | (simp only [i64_w, i32_w]; rw [c7b0]) | skip)
          have H' := Aside0.mk H; clear H; have p287 : 0 ≤ (x6_1 : Int) := oD; have q287 : x6_1 < (l0.length : Int) := oD; obtain ⟨ad287, e287, hx287_0⟩ := Kd.at_int HR0.out x6_1 p287 q287; obtain rfl : ad285 = ad287 := (by injection e287); replace hx287_0 := (HB.out.cell (World.block_lt_of_cell? w _ hx287_0)).trans hx287_0; replace p287 := eq_true p287; replace q287 := eq_true q287
          go_wp2
          go_meet
          case rel => exact ⟨_, (x5_1), sR, H', ⟨by have := HK1.out; first | omega | exact Nat.le_refl _⟩, ⟨BU⟩⟩
        case rest =>
          clear HC5; (try clear c2); (try clear c2b0); (try clear c3); (try clear c3b0); (try clear hx285_0); (try clear p285); (try clear q285); obtain ⟨kq, x28_4, rfl, HA, HJ4, HB⟩ := hcut; cases kq with
          | zero => exact absurd HA.out (by simp [spec_l5Plain.j1])
          | succ kj4 =>
            have H := HA.out; clear HA; simp only [spec_l5Plain.j1] at H
            by_cases c8 : x28_4 = true
            · subst c8
              replace H := ifT H; obtain ⟨c9, H⟩ := ifN H; have c9b0 : decide (0 ≤ x6_1) = true := decide_eq_true c9; clear c9; obtain ⟨c10, H⟩ := ifN H; have c10b0 : decide (x6_1 < (l0.length : Int)) = true := decide_eq_true c10; clear c10
              by_cases c11 : (rd l0 x6_1) < 0
              · rw [if_pos c11] at H
                have c11b0 : decide ((rd l0 x6_1) < 0) = true := decide_eq_true c11; clear c11; have H' := Aside0.mk H; clear H; have p288 : 0 ≤ (x6_1 : Int) := oD; have q288 : x6_1 < (l0.length : Int) := oD; obtain ⟨ad288, e288, hx288_0⟩ := Kd.at_int HR0.out x6_1 p288 q288; obtain rfl : ad285 = ad288 := (by injection e288); replace hx288_0 := (HB.out.cell (World.block_lt_of_cell? w _ hx288_0)).trans hx288_0; replace p288 := eq_true p288; replace q288 := eq_true q288
                go_wp2
                go_roundg kj4
                case measure => have := HK1.out; have := HJ4.out; omega
                case rel => exact ⟨(t286), ((-1)), (false), (wrap64 (x6_1 + 1)), sR, sR, sR, sR, H', ⟨by have := HK1.out; have := HJ4.out; omega⟩, ⟨BU⟩⟩
              rw [if_neg c11] at H; have c11b0 : decide ((rd l0 x6_1) < 0) = false := decide_eq_false c11; clear c11; have H' := Aside0.mk H; clear H; have p288 : 0 ≤ (x6_1 : Int) := oD; have q288 : x6_1 < (l0.length : Int) := oD; obtain ⟨ad288, e288, hx288_0⟩ := Kd.at_int HR0.out x6_1 p288 q288; obtain rfl : ad285 = ad288 := (by injection e288); replace hx288_0 := (HB.out.cell (World.block_lt_of_cell? w _ hx288_0)).trans hx288_0; replace p288 := eq_true p288; replace q288 := eq_true q288
              go_wp2
              go_roundg kj4
              case measure => have := HK1.out; have := HJ4.out; omega
              case rel => exact ⟨(t286), (x4_1), (false), (wrap64 (x6_1 + 1)), sR, sR, sR, sR, H', ⟨by have := HK1.out; have := HJ4.out; omega⟩, ⟨BU⟩⟩
            replace c8 := Bool.eq_false_iff.mpr c8; subst c8; replace H := ifF H; have H' := Aside0.mk H; clear H
            go_wp2
            go_roundg kj4
            case measure => have := HK1.out; have := HJ4.out; omega
            case rel => exact ⟨(t286), (x4_1), (x5_1), (wrap64 (x6_1 + 1)), sR, sR, sR, sR, H', ⟨by have := HK1.out; have := HJ4.out; omega⟩, ⟨BU⟩⟩
      rw [if_neg c2] at H; have c2b0 : decide (x6_1 < (l0.length : Int)) = false := decide_eq_false c2; clear c2; obtain ⟨y289, hy289⟩ : ∃ y_ : List Int, y_ = (([] : List Int)) := ⟨_, rfl⟩; replace H : (spec_l5Plain.l1 k1 l0 x3_1 x4_1 y289 0) = some r := rH hy289 H; have Ny289 := Aside0.mk hy289; clear hy289; have H' := Aside0.mk H; clear H
      go_wp2_with (first | ((with_reducible refine gate_dst (N := 34) rfl ?_); refine Kd.R_lit (Kd.int .i64) _ 3 ?hg (N := 34) ?hd (xs := ([] : List Int)) (inner := []) (ok := fun _ => True) (okp := fun _ => True) ?hr ?hp (fun _ hk => hk) trivial (Below.refl _ _) (Nat.le_refl _) (by simp) ?_; (case hd => rfl); (case hg => rfl); (case hr => first | (go_simp; done) | (go_simp; rfl)); (case hp => exact (Reps.none _ _)); intro v290 w12 ho13 hb hg_ hnew_; clear hg_ hnew_; (first | rw [← Ny289.out] at ho13 | (simp only [Int.reduceToNat] at ho13; rw [← Ny289.out] at ho13)); have HO291 := Aside0.mk (Kd.R_lower ho13 (below_size BU)); replace HB := BS hb; clear hb ho13))
      go_loopg [7, 8] k1 (fun kq v7 v8 w' => ∃ (x7_2 : List Int) (x8_2 : Int), v8 = .int .i64 x8_2 ∧ Aside0 (spec_l5Plain.l1 kq l0 x3_1 x4_1 x7_2 x8_2 = some r) ∧ Aside0 (kq ≤ k1) ∧ Aside0 (Kd.R (Kd.int .i64) 3 w' w.heap.size (fun _ => True) v7 x7_2) ∧ Aside0 (Below w.heap.size w w'))
      case atStart => exact ⟨(y289), (0), sR, H', ⟨Nat.le_refl _⟩, ⟨U HO291.out⟩, ⟨BU⟩⟩
      case round =>
        clear H'; (try clear c2); (try clear c2b0); obtain ⟨x7_2, x8_2, rfl, HA, HK2, HO_7, HB⟩ := hrel; cases gk with
        | zero => exact absurd HA.out (by simp [spec_l5Plain.l1])
        | succ k2 =>
          have H := HA.out; clear HA; simp only [spec_l5Plain.l1] at H
          by_cases c14 : x8_2 < (l0.length : Int)
          · rw [if_pos c14] at H
            have c14b0 : decide (x8_2 < (l0.length : Int)) = true := decide_eq_true c14; clear c14; obtain ⟨c15, H⟩ := ifN H; have c15b0 : decide (0 ≤ x8_2) = true := decide_eq_true c15; clear c15; obtain ⟨c16, H⟩ := ifM H; have c16b0 : (x3_1 == 0) = false := beq_eq_false_iff_ne.mpr c16; have c16b1 : (x3_1 != 0) = true := bne_iff_ne.mpr c16; obtain ⟨c17, H⟩ := ifN H; have LMc17 := Aside0.mk c17; clear c17; obtain ⟨y293, hy293⟩ : ∃ y_ : List Int, y_ = (x7_2 ++ [wrap64 (Int.tdiv (wrap64 (x4_1 * (rd l0 x8_2))) x3_1)]) := ⟨_, rfl⟩; replace H : (spec_l5Plain.l1 k2 l0 x3_1 x4_1 y293 (wrap64 (x8_2 + 1))) = some r := rH hy293 H; have Ny293 := Aside0.mk hy293; clear hy293; have H' := Aside0.mk H; clear H; have p292 : 0 ≤ (x8_2 : Int) := oD; have q292 : x8_2 < (l0.length : Int) := oD; obtain ⟨ad292, e292, hx292_0⟩ := Kd.at_int HR0.out x8_2 p292 q292; cases e292; replace hx292_0 := (HB.out.cell (World.block_lt_of_cell? w _ hx292_0)).trans hx292_0; replace p292 := eq_true p292; replace q292 := eq_true q292
            go_wp2_with (first | ((with_reducible refine gate_builtin (b := .append) (xs := #[.tmp 41, .tmp 50]) rfl ?_); at_builtin; refine Kd.R_append (Kd.int .i64) (w0 := w) w.heap.size rfl (.tmp 41) (.tmp 50) 23 3 (.int .i64 0) 8 rfl Try.underlying23 info3 rfl (by decide) (by omega) u7 x7_2 (wrap64 (Int.tdiv (wrap64 (x4_1 * (rd l0 x8_2))) x3_1)) [.int .i64 (wrap64 (Int.tdiv (wrap64 (x4_1 * (rd l0 x8_2))) x3_1))] (fun _ => True) (fun _ => False) rfl rfl ?aP (fun _ hk => hk.elim) ?aF ?aO ?aB ?aS ?aL ?_; (case aP => exact rfl); (case aB => exact BU); (case aF => exact (fun _ _ => trivial)); (case aO => exact (U HO_7.out)); (case aS => exact (below_size BU)); (case aL => have := LMc17.out; omega); intro v294 w18 ho hb hg hat; rw [← Ny293.out] at ho; have n0_ := Aside0.mk (hb); have n1_ := Aside0.mk (ho); try clear HB; clear HO_7; have HB := n0_; have HO295 := n1_; clear n0_ n1_; clear ho hb hg hat))
            go_roundg k2
            case measure => have := HK1.out; have := HK2.out; omega
            case rel => exact ⟨(y293), (wrap64 (x8_2 + 1)), sR, H', ⟨by have := HK1.out; have := HK2.out; omega⟩, ⟨U HO295.out⟩, ⟨BU⟩⟩
          rw [if_neg c14] at H; have c14b0 : decide (x8_2 < (l0.length : Int)) = false := decide_eq_false c14; clear c14; obtain rfl := Option.some.inj H
          go_wp2
          go_ret
          exact ⟨_, eR, U HO_7.out, BU⟩

/-! ### spec_l5Many: function 43 -/
mutual
def spec_l5Many.j0 : Nat → List Int → Bool → Option (Int)
  | 0, _, _ => none
  | k + 1, x1, x24 => if x24 = true then (some 0) else ((spec_l5Plain.f k x1).bind fun t298 => (spec_l5Many.l0 k x1 t298 0))
def spec_l5Many.l0 : Nat → List Int → List Int → Int → Option (Int)
  | 0, _, _, _ => none
  | k + 1, x1, x7, x8 => if x8 < (x1.length : Int) then (if 0 ≤ x8 then (if x8 < (x7.length : Int) then (if (rd x7 x8) = (rd x1 x8) then (spec_l5Many.l0 k x1 x7 (wrap64 (x8 + 1))) else (some 0)) else (none)) else (none)) else (some 1)
def spec_l5Many.l1 : Nat → List Int → List Int → Int → Int → Int → Option (Int)
  | 0, _, _, _, _, _ => none
  | k + 1, x0, x1, x2, x9, x10 => if x10 ≤ x2 then ((some (([] : List Int) : List Int)).bind fun y303 => (if y303.length + x1.length < 17592186044416 then ((some (y303 ++ x1 : List Int)).bind fun y306 => (if y306.length < 17592186044416 then ((spec_l5Many.f k x0 (y306 ++ [x10]) x2).bind fun t312 => (spec_l5Many.l1 k x0 x1 x2 (wrap64 (x9 + t312)) (wrap64 (x10 + 1)))) else (none))) else (none))) else (some x9)
def spec_l5Many.f : Nat → List Int → List Int → Int → Option (Int)
  | 0, _, _, _ => none
  | k + 1, l0, l1, a2 => if (l1.length : Int) = (l0.length : Int) then ((spec_l5Some.f k l1).bind fun t296 => (if t296 = true then ((spec_l4Value.f k l0 l1).bind fun t297 => (spec_l5Many.j0 k l1 (t297 != 0))) else (spec_l5Many.j0 k l1 true))) else (spec_l5Many.l1 k l0 l1 a2 0 (wrap64 (-a2)))
end
theorem spec_l5Many.mono_l : ∀ k, (∀ y0 y1 y2, LeO (spec_l5Many.f k y0 y1 y2) (spec_l5Many.f (k + 1) y0 y1 y2)) ∧ (∀ y0 y1, LeO (spec_l5Many.j0 k y0 y1) (spec_l5Many.j0 (k + 1) y0 y1)) ∧ (∀ y0 y1 y2, LeO (spec_l5Many.l0 k y0 y1 y2) (spec_l5Many.l0 (k + 1) y0 y1 y2)) ∧ (∀ y0 y1 y2 y3 y4, LeO (spec_l5Many.l1 k y0 y1 y2 y3 y4) (spec_l5Many.l1 (k + 1) y0 y1 y2 y3 y4))
  | 0 => ⟨fun _ _ _ r h => by simp [spec_l5Many.f] at h, fun _ _ r h => by simp [spec_l5Many.j0] at h, fun _ _ _ r h => by simp [spec_l5Many.l0] at h, fun _ _ _ _ _ r h => by simp [spec_l5Many.l1] at h⟩
  | k + 1 => by
    obtain ⟨ih0, ih1, ih2, ih3⟩ := spec_l5Many.mono_l k
    refine ⟨?_, ?_, ?_, ?_⟩ <;> intros <;> (first | unfold spec_l5Many.f | unfold spec_l5Many.j0 | unfold spec_l5Many.l0 | unfold spec_l5Many.l1) <;> (repeat' first
      | (with_reducible exact ih0 _ _ _)
      | (with_reducible exact ih1 _ _)
      | (with_reducible exact ih2 _ _ _)
      | (with_reducible exact ih3 _ _ _ _ _)
      | (with_reducible exact spec_l4Value.mono _ _ _)
      | (with_reducible exact spec_l5Plain.mono _ _)
      | (with_reducible exact spec_l5Some.mono _ _)
      | (with_reducible exact LeO.refl _)
      | (with_reducible exact LeO.none _)
      | (with_reducible refine LeO.ite ?_ ?_)
      | (with_reducible refine LeO.bind ?_ (fun _ => ?_))
      | exact ih0 _ _ _
      | exact ih1 _ _
      | exact ih2 _ _ _
      | exact ih3 _ _ _ _ _
      | exact spec_l4Value.mono _ _ _
      | exact spec_l5Plain.mono _ _
      | exact spec_l5Some.mono _ _
      | exact LeO.none _
      | refine LeO.ite ?_ ?_
      | refine LeO.bind ?_ (fun _ => ?_))
theorem spec_l5Many.mono : ∀ a0 a1 a2 k, LeO (spec_l5Many.f k a0 a1 a2) (spec_l5Many.f (k + 1) a0 a1 a2) := by
  intro a0 a1 a2 k
  obtain ⟨ih0, ih1, ih2, ih3⟩ := spec_l5Many.mono_l k
  exact ih0 a0 a1 a2
set_option maxHeartbeats 8000000 in
set_option maxRecDepth 100000 in
theorem spec_l5Many.calls (k : Nat) : ∀ (A0 : Option Addr) (c0 : Nat) (l0 : List Int) (A1 : Option Addr) (c1 : Nat) (l1 : List Int) (a2 : Int) (r : Int) (w : World) (hr0 : Kd.C (Kd.int .i64) w A0 l0.length l0) (hc0 : l0.length ≤ c0) (hr1 : Kd.C (Kd.int .i64) w A1 l1.length l1) (hc1 : l1.length ≤ c1) (h : spec_l5Many.f k l0 l1 a2 = some r),
    Calls Try.prog 43 #[.slice A0 l0.length c0, .slice A1 l1.length c1, .int .i64 a2] w fun e w' => e = .returned (.int .i64 r) ∧ Below w.heap.size w w' := by
  induction k using Nat.strongRecOn with
  | _ k ih =>
  intro A0 c0 l0 A1 c1 l1 a2 r w hr0 hc0 hr1 hc1 h; cases k with
  | zero => exact absurd h (by simp [spec_l5Many.f])
  | succ k =>
  simp only [spec_l5Many.f] at h; have HR0 := Aside0.mk hr0; have HC0 := Aside0.mk hc0; clear hr0 hc0; have HR1 := Aside0.mk hr1; have HC1 := Aside0.mk hc1; clear hr1 hc1; have HB := Aside0.mk (Below.refl w.heap.size w); have H := h; clear h
  by_cases c4 : (l1.length : Int) = (l0.length : Int)
  · rw [if_pos c4] at H
    have c4b0 : ((l1.length : Int) == (l0.length : Int)) = true := beq_iff_eq.mpr c4; have c4b1 : ((l1.length : Int) != (l0.length : Int)) = false := bne_eq_false_iff_eq.mpr c4
    have c4b2 : (l1.length == l0.length) = true := by first | simpa using c4 | (simp at c4 ⊢; omega)
    clear c4; have HC5 := Aside0.mk H; clear H; go_enter Try.func43, Try.ntmps43
    go_upto_region 2 with (fail)
    repeat (go_quiet (fail); go_upto_region 2 with (fail))
    go_cut [24] (fun v24 wc => ∃ (kq : Nat) (x24_4 : Bool), v24 = .bool x24_4 ∧ Aside0 (spec_l5Many.j0 kq l1 x24_4 = some r) ∧ Aside0 (kq ≤ k) ∧ Aside0 (Below w.heap.size w wc))
    case first =>
      have H := HC5.out; clear HC5; obtain ⟨t296, A6, H⟩ := bnd H
      by_cases c7 : t296 = true
      · subst c7
        replace H := ifT H; obtain ⟨t297, A8, H⟩ := bnd H; have H' := Aside0.mk H; clear H
        go_wp2_with (first | (go_at_call 28; (with_reducible refine (spec_l5Some.calls k _ _ l1 true _ ?side1 ?side2 A6.out).mono ?_); (case side1 => exact U (Kd.C_below HR1.out HB.out)); (case side2 => exact HC1.out); rintro e w' ⟨rfl, ⟨nd, rfl⟩⟩; (try first | exact ⟨rfl, _, World.drewN_drewN _ _ _⟩ | exact ⟨rfl, _, Eq.trans (World.drewN_drewN _ _ _) (congrArg (World.drewN _) (Nat.add_assoc _ _ _))⟩)) | (go_at_call 29; (with_reducible refine (spec_l4Value.calls k _ _ l0 _ _ l1 t297 _ ?side1 ?side2 ?side3 ?side4 A8.out).mono ?_); (case side1 => exact U (Kd.C_below HR0.out BU)); (case side2 => exact HC0.out); (case side3 => exact U (Kd.C_below HR1.out BU)); (case side4 => exact HC1.out); rintro e w' ⟨rfl, ⟨nd, rfl⟩⟩; (try first | exact ⟨rfl, _, World.drewN_drewN _ _ _⟩ | exact ⟨rfl, _, Eq.trans (World.drewN_drewN _ _ _) (congrArg (World.drewN _) (Nat.add_assoc _ _ _))⟩)))
        repeat (go_quiet (first | (go_at_call 28; (with_reducible refine (spec_l5Some.calls k _ _ l1 true _ ?side1 ?side2 A6.out).mono ?_); (case side1 => exact U (Kd.C_below HR1.out HB.out)); (case side2 => exact HC1.out); rintro e w' ⟨rfl, ⟨nd, rfl⟩⟩; (try first | exact ⟨rfl, _, World.drewN_drewN _ _ _⟩ | exact ⟨rfl, _, Eq.trans (World.drewN_drewN _ _ _) (congrArg (World.drewN _) (Nat.add_assoc _ _ _))⟩)) | (go_at_call 29; (with_reducible refine (spec_l4Value.calls k _ _ l0 _ _ l1 t297 _ ?side1 ?side2 ?side3 ?side4 A8.out).mono ?_); (case side1 => exact U (Kd.C_below HR0.out BU)); (case side2 => exact HC0.out); (case side3 => exact U (Kd.C_below HR1.out BU)); (case side4 => exact HC1.out); rintro e w' ⟨rfl, ⟨nd, rfl⟩⟩; (try first | exact ⟨rfl, _, World.drewN_drewN _ _ _⟩ | exact ⟨rfl, _, Eq.trans (World.drewN_drewN _ _ _) (congrArg (World.drewN _) (Nat.add_assoc _ _ _))⟩))); try go_wp2_with (first | (go_at_call 28; (with_reducible refine (spec_l5Some.calls k _ _ l1 true _ ?side1 ?side2 A6.out).mono ?_); (case side1 => exact U (Kd.C_below HR1.out HB.out)); (case side2 => exact HC1.out); rintro e w' ⟨rfl, ⟨nd, rfl⟩⟩; (try first | exact ⟨rfl, _, World.drewN_drewN _ _ _⟩ | exact ⟨rfl, _, Eq.trans (World.drewN_drewN _ _ _) (congrArg (World.drewN _) (Nat.add_assoc _ _ _))⟩)) | (go_at_call 29; (with_reducible refine (spec_l4Value.calls k _ _ l0 _ _ l1 t297 _ ?side1 ?side2 ?side3 ?side4 A8.out).mono ?_); (case side1 => exact U (Kd.C_below HR0.out BU)); (case side2 => exact HC0.out); (case side3 => exact U (Kd.C_below HR1.out BU)); (case side4 => exact HC1.out); rintro e w' ⟨rfl, ⟨nd, rfl⟩⟩; (try first | exact ⟨rfl, _, World.drewN_drewN _ _ _⟩ | exact ⟨rfl, _, Eq.trans (World.drewN_drewN _ _ _) (congrArg (World.drewN _) (Nat.add_assoc _ _ _))⟩))))
        go_meet
        case rel => exact ⟨_, ((t297 != 0)), sR, H', ⟨oR⟩, ⟨BU⟩⟩
      replace c7 := Bool.eq_false_iff.mpr c7; subst c7; replace H := ifF H; have H' := Aside0.mk H; clear H
      go_wp2_with (first | (go_at_call 28; (with_reducible refine (spec_l5Some.calls k _ _ l1 false _ ?side1 ?side2 A6.out).mono ?_); (case side1 => exact U (Kd.C_below HR1.out HB.out)); (case side2 => exact HC1.out); rintro e w' ⟨rfl, ⟨nd, rfl⟩⟩; (try first | exact ⟨rfl, _, World.drewN_drewN _ _ _⟩ | exact ⟨rfl, _, Eq.trans (World.drewN_drewN _ _ _) (congrArg (World.drewN _) (Nat.add_assoc _ _ _))⟩)))
      repeat (go_quiet (first | (go_at_call 28; (with_reducible refine (spec_l5Some.calls k _ _ l1 false _ ?side1 ?side2 A6.out).mono ?_); (case side1 => exact U (Kd.C_below HR1.out HB.out)); (case side2 => exact HC1.out); rintro e w' ⟨rfl, ⟨nd, rfl⟩⟩; (try first | exact ⟨rfl, _, World.drewN_drewN _ _ _⟩ | exact ⟨rfl, _, Eq.trans (World.drewN_drewN _ _ _) (congrArg (World.drewN _) (Nat.add_assoc _ _ _))⟩))); try go_wp2_with (first | (go_at_call 28; (with_reducible refine (spec_l5Some.calls k _ _ l1 false _ ?side1 ?side2 A6.out).mono ?_); (case side1 => exact U (Kd.C_below HR1.out HB.out)); (case side2 => exact HC1.out); rintro e w' ⟨rfl, ⟨nd, rfl⟩⟩; (try first | exact ⟨rfl, _, World.drewN_drewN _ _ _⟩ | exact ⟨rfl, _, Eq.trans (World.drewN_drewN _ _ _) (congrArg (World.drewN _) (Nat.add_assoc _ _ _))⟩))))
      go_meet
      case rel => exact ⟨_, (true), sR, H', ⟨oR⟩, ⟨BU⟩⟩
    case rest =>
      clear HC5; (try clear c1); (try clear c4); (try clear c4b0); (try clear c4b1); (try clear c4b2); obtain ⟨kq, x24_4, rfl, HA, HJ4, HB⟩ := hcut; cases kq with
      | zero => exact absurd HA.out (by simp [spec_l5Many.j0])
      | succ kj4 =>
        have H := HA.out; clear HA; simp only [spec_l5Many.j0] at H
        by_cases c9 : x24_4 = true
        · subst c9
          replace H := ifT H; obtain rfl := Option.some.inj H
          go_wp2
          repeat (go_quiet (fail); try go_wp2)
          go_ret
          exact ⟨eR, BU⟩
        replace c9 := Bool.eq_false_iff.mpr c9; subst c9; replace H := ifF H; obtain ⟨t298, A10, H⟩ := bnd H; have H' := Aside0.mk H; clear H
        go_wp2_with (first | (go_at_call 50; (with_reducible refine (spec_l5Plain.calls kj4 _ _ l1 t298 _ ?side1 ?side2 A10.out).mono ?_); (case side1 => exact U (Kd.C_below HR1.out HB.out)); (case side2 => exact HC1.out); rintro e w11 ⟨v299, rfl, ho0, hb⟩; have HO300 := Aside0.mk (Kd.R_lower ho0 (below_size BU)); replace HB := BS hb; (try clear hb); (try clear ho0)))
        repeat (go_quiet (first | (go_at_call 50; (with_reducible refine (spec_l5Plain.calls kj4 _ _ l1 t298 _ ?side1 ?side2 A10.out).mono ?_); (case side1 => exact U (Kd.C_below HR1.out HB.out)); (case side2 => exact HC1.out); rintro e w11 ⟨v299, rfl, ho0, hb⟩; have HO300 := Aside0.mk (Kd.R_lower ho0 (below_size BU)); replace HB := BS hb; (try clear hb); (try clear ho0))); try go_wp2_with (first | (go_at_call 50; (with_reducible refine (spec_l5Plain.calls kj4 _ _ l1 t298 _ ?side1 ?side2 A10.out).mono ?_); (case side1 => exact U (Kd.C_below HR1.out HB.out)); (case side2 => exact HC1.out); rintro e w11 ⟨v299, rfl, ho0, hb⟩; have HO300 := Aside0.mk (Kd.R_lower ho0 (below_size BU)); replace HB := BS hb; (try clear hb); (try clear ho0))))
        go_loopg [8] kj4 (fun kq v8 w' => ∃ (x8_2 : Int), v8 = .int .i64 x8_2 ∧ Aside0 (spec_l5Many.l0 kq l1 t298 x8_2 = some r) ∧ Aside0 (kq ≤ kj4) ∧ Aside0 (Kd.R (Kd.int .i64) 3 w' w.heap.size (fun _ => True) v299 t298) ∧ Aside0 (Below w.heap.size w w'))
        case atStart => exact ⟨(0), sR, H', ⟨Nat.le_refl _⟩, ⟨U HO300.out⟩, ⟨BU⟩⟩
        case round =>
          clear H'; (try clear c1); (try clear c4); (try clear c4b0); (try clear c4b1); (try clear c4b2); (try clear c9); obtain ⟨x8_2, rfl, HA, HK2, HO_7, HB⟩ := hrel; cases gk with
          | zero => exact absurd HA.out (by simp [spec_l5Many.l0])
          | succ k2 =>
            have H := HA.out; clear HA; simp only [spec_l5Many.l0] at H
            by_cases c12 : x8_2 < (l1.length : Int)
            · rw [if_pos c12] at H
              have c12b0 : decide (x8_2 < (l1.length : Int)) = true := decide_eq_true c12; clear c12; obtain ⟨c13, H⟩ := ifN H; have c13b0 : decide (0 ≤ x8_2) = true := decide_eq_true c13; clear c13; obtain ⟨c14, H⟩ := ifN H; have c14b0 : decide (x8_2 < (t298.length : Int)) = true := decide_eq_true c14; clear c14
              by_cases c15 : (rd t298 x8_2) = (rd l1 x8_2)
              · rw [if_pos c15] at H
                have c15b0 : ((rd t298 x8_2) == (rd l1 x8_2)) = true := beq_iff_eq.mpr c15; have c15b1 : ((rd t298 x8_2) != (rd l1 x8_2)) = false := bne_eq_false_iff_eq.mpr c15; clear c15; have H' := Aside0.mk H; clear H; obtain ⟨Ao16, co16, eo16⟩ := Kd.R_slice HO_7.out; subst eo16; have p301 : 0 ≤ (x8_2 : Int) := oD; have q301 : x8_2 < (t298.length : Int) := oD; obtain ⟨ad301, e301, hx301_0⟩ := Kd.at_int (Kd.R_reads' HO_7.out).2.2 x8_2 p301 q301; cases e301; replace p301 := eq_true p301; replace q301 := eq_true q301; have p302 : 0 ≤ (x8_2 : Int) := oD; have q302 : x8_2 < (l1.length : Int) := oD; obtain ⟨ad302, e302, hx302_0⟩ := Kd.at_int HR1.out x8_2 p302 q302; cases e302; replace hx302_0 := (HB.out.cell (World.block_lt_of_cell? w _ hx302_0)).trans hx302_0; replace p302 := eq_true p302; replace q302 := eq_true q302
                go_wp2
                repeat (go_quiet (fail); try go_wp2)
                go_roundg k2
                case measure => have := HJ4.out; have := HK2.out; omega
                case rel => exact ⟨(wrap64 (x8_2 + 1)), sR, H', ⟨by have := HJ4.out; have := HK2.out; omega⟩, ⟨U HO_7.out⟩, ⟨BU⟩⟩
              rw [if_neg c15] at H; have c15b0 : ((rd t298 x8_2) == (rd l1 x8_2)) = false := beq_eq_false_iff_ne.mpr c15; have c15b1 : ((rd t298 x8_2) != (rd l1 x8_2)) = true := bne_iff_ne.mpr c15; obtain rfl := Option.some.inj H; obtain ⟨Ao17, co17, eo17⟩ := Kd.R_slice HO_7.out; subst eo17; have p301 : 0 ≤ (x8_2 : Int) := oD; have q301 : x8_2 < (t298.length : Int) := oD; obtain ⟨ad301, e301, hx301_0⟩ := Kd.at_int (Kd.R_reads' HO_7.out).2.2 x8_2 p301 q301; cases e301; replace p301 := eq_true p301; replace q301 := eq_true q301; have p302 : 0 ≤ (x8_2 : Int) := oD; have q302 : x8_2 < (l1.length : Int) := oD; obtain ⟨ad302, e302, hx302_0⟩ := Kd.at_int HR1.out x8_2 p302 q302; cases e302; replace hx302_0 := (HB.out.cell (World.block_lt_of_cell? w _ hx302_0)).trans hx302_0; replace p302 := eq_true p302; replace q302 := eq_true q302
              go_wp2
              repeat (go_quiet (fail); try go_wp2)
              go_ret
              exact ⟨eR, BU⟩
            rw [if_neg c12] at H; have c12b0 : decide (x8_2 < (l1.length : Int)) = false := decide_eq_false c12; clear c12; obtain rfl := Option.some.inj H
            go_wp2
            repeat (go_quiet (fail); try go_wp2)
            go_ret
            exact ⟨eR, BU⟩
  rw [if_neg c4] at H; have c4b0 : ((l1.length : Int) == (l0.length : Int)) = false := beq_eq_false_iff_ne.mpr c4; have c4b1 : ((l1.length : Int) != (l0.length : Int)) = true := bne_iff_ne.mpr c4
  have c4b2 : (l1.length == l0.length) = false := by first | simpa using c4 | (simp at c4 ⊢; omega)
  have H' := Aside0.mk H; clear H; go_enter Try.func43, Try.ntmps43
  go_wp2
  repeat (go_quiet (fail); try go_wp2)
  go_loopg [9, 10] k (fun kq v9 v10 w' => ∃ (x9_1 : Int) (x10_1 : Int), v9 = .int .i64 x9_1 ∧ v10 = .int .i64 x10_1 ∧ Aside0 (spec_l5Many.l1 kq l0 l1 a2 x9_1 x10_1 = some r) ∧ Aside0 (kq ≤ k) ∧ Aside0 (Below w.heap.size w w'))
  case atStart => exact ⟨(0), (wrap64 (-a2)), sR, sR, H', ⟨Nat.le_refl _⟩, ⟨BU⟩⟩
  case round =>
    clear H'; (try clear c1); (try clear c4); (try clear c4b0); (try clear c4b1); (try clear c4b2); obtain ⟨x9_1, x10_1, rfl, rfl, HA, HK1, HB⟩ := hrel; cases gk with
    | zero => exact absurd HA.out (by simp [spec_l5Many.l1])
    | succ k1 =>
      have H := HA.out; clear HA; simp only [spec_l5Many.l1] at H
      by_cases c18 : x10_1 ≤ a2
      · rw [if_pos c18] at H
        have c18b0 : decide (x10_1 ≤ a2) = true := decide_eq_true c18; clear c18; obtain ⟨y303, hy303⟩ : ∃ y_ : List Int, y_ = (([] : List Int)) := ⟨_, rfl⟩
        replace H : (if y303.length + l1.length < 17592186044416 then ((some (y303 ++ l1 : List Int)).bind fun y306 => (if y306.length < 17592186044416 then ((spec_l5Many.f k1 l0 (y306 ++ [x10_1]) a2).bind fun t312 => (spec_l5Many.l1 k1 l0 l1 a2 (wrap64 (x9_1 + t312)) (wrap64 (x10_1 + 1)))) else (none))) else (none)) = some r := rH hy303 H
        have Ny303 := Aside0.mk hy303; clear hy303; obtain ⟨c19, H⟩ := ifN H; have LMc19 := Aside0.mk c19; clear c19; obtain ⟨y306, hy306⟩ : ∃ y_ : List Int, y_ = (y303 ++ l1) := ⟨_, rfl⟩; replace H : (if y306.length < 17592186044416 then ((spec_l5Many.f k1 l0 (y306 ++ [x10_1]) a2).bind fun t312 => (spec_l5Many.l1 k1 l0 l1 a2 (wrap64 (x9_1 + t312)) (wrap64 (x10_1 + 1)))) else (none)) = some r := rH hy306 H; have Ny306 := Aside0.mk hy306; clear hy306; obtain ⟨c20, H⟩ := ifN H; have LMc20 := Aside0.mk c20; clear c20; obtain ⟨y309, hy309⟩ : ∃ y_ : List Int, y_ = (y306 ++ [x10_1]) := ⟨_, rfl⟩; replace H : ((spec_l5Many.f k1 l0 y309 a2).bind fun t312 => (spec_l5Many.l1 k1 l0 l1 a2 (wrap64 (x9_1 + t312)) (wrap64 (x10_1 + 1)))) = some r := rH hy309 H; have Ny309 := Aside0.mk hy309; clear hy309; obtain ⟨t312, A21, H⟩ := bnd H; have H' := Aside0.mk H; clear H
        go_wp2_with (first | ((with_reducible refine gate_dst (N := 51) rfl ?_); refine Kd.R_lit (Kd.int .i64) _ 3 ?hg (N := 51) ?hd (xs := ([] : List Int)) (inner := []) (ok := fun _ => True) (okp := fun _ => True) ?hr ?hp (fun _ hk => hk) trivial (Below.refl _ _) (Nat.le_refl _) (by simp) ?_; (case hd => rfl); (case hg => rfl); (case hr => first | (go_simp; done) | (go_simp; rfl)); (case hp => exact (Reps.none _ _)); intro v304 w22 ho23 hb hg_ hnew_; clear hg_ hnew_; (first | rw [← Ny303.out] at ho23 | (simp only [Int.reduceToNat] at ho23; rw [← Ny303.out] at ho23)); have HO305 := Aside0.mk (Kd.R_lower ho23 (below_size BU)); replace HB := BS hb; clear hb ho23) | ((with_reducible refine gate_builtin (b := .append) (xs := #[.tmp 51, .tmp 52]) rfl ?_); at_builtin; refine Kd.R_append_rows (Kd.int .i64) (w0 := w) w.heap.size rfl (.tmp 51) (.tmp 52) 23 3 (.int .i64 0) 8 rfl Try.underlying23 info3 rfl (by decide) (by omega) v304 y303 l1 _ _ _ (fun _ => True) (fun _ => False) rfl rfl ?aO ?aR (fun _ _ h => h) (fun _ h => h.elim) ?aF ?aB ?aS ?aL ?_; (case aR => exact U (Kd.C_below HR1.out HB.out)); (case aB => exact BU); (case aF => exact (fun _ _ => trivial)); (case aO => exact (U HO305.out)); (case aS => exact (below_size BU)); (case aL => have := LMc19.out; omega); intro v307 w24 ho hb hg hat; rw [← Ny306.out] at ho; have n0_ := Aside0.mk (hb); have n1_ := Aside0.mk (ho); try clear HB; clear HO305; have HB := n0_; have HO308 := n1_; clear n0_ n1_; clear ho hb hg hat) | ((with_reducible refine gate_builtin (b := .append) (xs := #[.tmp 53, .tmp 55]) rfl ?_); at_builtin; refine Kd.R_append (Kd.int .i64) (w0 := w) w.heap.size rfl (.tmp 53) (.tmp 55) 23 3 (.int .i64 0) 8 rfl Try.underlying23 info3 rfl (by decide) (by omega) v307 y306 x10_1 [.int .i64 x10_1] (fun _ => True) (fun _ => False) rfl rfl ?aP (fun _ hk => hk.elim) ?aF ?aO ?aB ?aS ?aL ?_; (case aP => exact rfl); (case aB => exact BU); (case aF => exact (fun _ _ => trivial)); (case aO => exact (U HO308.out)); (case aS => exact (below_size BU)); (case aL => have := LMc20.out; omega); intro v310 w25 ho hb hg hat; rw [← Ny309.out] at ho; have n0_ := Aside0.mk (hb); have n1_ := Aside0.mk (ho); try clear HB; clear HO308; have HB := n0_; have HO311 := n1_; clear n0_ n1_; clear ho hb hg hat; obtain ⟨Ao26, co26, eo26⟩ := Kd.R_slice HO311.out; subst eo26) | (go_at_call 43; (with_reducible refine (ih k1 (by have := HK1.out; omega) _ _ l0 _ _ y309 a2 t312 _ ?side1 ?side2 ?side3 ?side4 A21.out).mono ?_); (case side1 => exact U (Kd.C_below HR0.out HB.out)); (case side2 => exact HC0.out); (case side3 => exact U ((Kd.R_reads' HO311.out).2.2)); (case side4 => exact (Kd.R_reads' HO311.out).2.1); rintro e w27 ⟨rfl, hb⟩; replace HO311 := Aside0.mk (Kd.R_below (U HO311.out) hb); replace HB := BS hb; (try clear hb)))
        repeat (go_quiet (first | ((with_reducible refine gate_dst (N := 51) rfl ?_); refine Kd.R_lit (Kd.int .i64) _ 3 ?hg (N := 51) ?hd (xs := ([] : List Int)) (inner := []) (ok := fun _ => True) (okp := fun _ => True) ?hr ?hp (fun _ hk => hk) trivial (Below.refl _ _) (Nat.le_refl _) (by simp) ?_; (case hd => rfl); (case hg => rfl); (case hr => first | (go_simp; done) | (go_simp; rfl)); (case hp => exact (Reps.none _ _)); intro v304 w22 ho23 hb hg_ hnew_; clear hg_ hnew_; (first | rw [← Ny303.out] at ho23 | (simp only [Int.reduceToNat] at ho23; rw [← Ny303.out] at ho23)); have HO305 := Aside0.mk (Kd.R_lower ho23 (below_size BU)); replace HB := BS hb; clear hb ho23) | ((with_reducible refine gate_builtin (b := .append) (xs := #[.tmp 51, .tmp 52]) rfl ?_); at_builtin; refine Kd.R_append_rows (Kd.int .i64) (w0 := w) w.heap.size rfl (.tmp 51) (.tmp 52) 23 3 (.int .i64 0) 8 rfl Try.underlying23 info3 rfl (by decide) (by omega) v304 y303 l1 _ _ _ (fun _ => True) (fun _ => False) rfl rfl ?aO ?aR (fun _ _ h => h) (fun _ h => h.elim) ?aF ?aB ?aS ?aL ?_; (case aR => exact U (Kd.C_below HR1.out HB.out)); (case aB => exact BU); (case aF => exact (fun _ _ => trivial)); (case aO => exact (U HO305.out)); (case aS => exact (below_size BU)); (case aL => have := LMc19.out; omega); intro v307 w24 ho hb hg hat; rw [← Ny306.out] at ho; have n0_ := Aside0.mk (hb); have n1_ := Aside0.mk (ho); try clear HB; clear HO305; have HB := n0_; have HO308 := n1_; clear n0_ n1_; clear ho hb hg hat) | ((with_reducible refine gate_builtin (b := .append) (xs := #[.tmp 53, .tmp 55]) rfl ?_); at_builtin; refine Kd.R_append (Kd.int .i64) (w0 := w) w.heap.size rfl (.tmp 53) (.tmp 55) 23 3 (.int .i64 0) 8 rfl Try.underlying23 info3 rfl (by decide) (by omega) v307 y306 x10_1 [.int .i64 x10_1] (fun _ => True) (fun _ => False) rfl rfl ?aP (fun _ hk => hk.elim) ?aF ?aO ?aB ?aS ?aL ?_; (case aP => exact rfl); (case aB => exact BU); (case aF => exact (fun _ _ => trivial)); (case aO => exact (U HO308.out)); (case aS => exact (below_size BU)); (case aL => have := LMc20.out; omega); intro v310 w25 ho hb hg hat; rw [← Ny309.out] at ho; have n0_ := Aside0.mk (hb); have n1_ := Aside0.mk (ho); try clear HB; clear HO308; have HB := n0_; have HO311 := n1_; clear n0_ n1_; clear ho hb hg hat; obtain ⟨Ao26, co26, eo26⟩ := Kd.R_slice HO311.out; subst eo26) | (go_at_call 43; (with_reducible refine (ih k1 (by have := HK1.out; omega) _ _ l0 _ _ y309 a2 t312 _ ?side1 ?side2 ?side3 ?side4 A21.out).mono ?_); (case side1 => exact U (Kd.C_below HR0.out HB.out)); (case side2 => exact HC0.out); (case side3 => exact U ((Kd.R_reads' HO311.out).2.2)); (case side4 => exact (Kd.R_reads' HO311.out).2.1); rintro e w27 ⟨rfl, hb⟩; replace HO311 := Aside0.mk (Kd.R_below (U HO311.out) hb); replace HB := BS hb; (try clear hb))); try go_wp2_with (first | ((with_reducible refine gate_dst (N := 51) rfl ?_); refine Kd.R_lit (Kd.int .i64) _ 3 ?hg (N := 51) ?hd (xs := ([] : List Int)) (inner := []) (ok := fun _ => True) (okp := fun _ => True) ?hr ?hp (fun _ hk => hk) trivial (Below.refl _ _) (Nat.le_refl _) (by simp) ?_; (case hd => rfl); (case hg => rfl); (case hr => first | (go_simp; done) | (go_simp; rfl)); (case hp => exact (Reps.none _ _)); intro v304 w22 ho23 hb hg_ hnew_; clear hg_ hnew_; (first | rw [← Ny303.out] at ho23 | (simp only [Int.reduceToNat] at ho23; rw [← Ny303.out] at ho23)); have HO305 := Aside0.mk (Kd.R_lower ho23 (below_size BU)); replace HB := BS hb; clear hb ho23) | ((with_reducible refine gate_builtin (b := .append) (xs := #[.tmp 51, .tmp 52]) rfl ?_); at_builtin; refine Kd.R_append_rows (Kd.int .i64) (w0 := w) w.heap.size rfl (.tmp 51) (.tmp 52) 23 3 (.int .i64 0) 8 rfl Try.underlying23 info3 rfl (by decide) (by omega) v304 y303 l1 _ _ _ (fun _ => True) (fun _ => False) rfl rfl ?aO ?aR (fun _ _ h => h) (fun _ h => h.elim) ?aF ?aB ?aS ?aL ?_; (case aR => exact U (Kd.C_below HR1.out HB.out)); (case aB => exact BU); (case aF => exact (fun _ _ => trivial)); (case aO => exact (U HO305.out)); (case aS => exact (below_size BU)); (case aL => have := LMc19.out; omega); intro v307 w24 ho hb hg hat; rw [← Ny306.out] at ho; have n0_ := Aside0.mk (hb); have n1_ := Aside0.mk (ho); try clear HB; clear HO305; have HB := n0_; have HO308 := n1_; clear n0_ n1_; clear ho hb hg hat) | ((with_reducible refine gate_builtin (b := .append) (xs := #[.tmp 53, .tmp 55]) rfl ?_); at_builtin; refine Kd.R_append (Kd.int .i64) (w0 := w) w.heap.size rfl (.tmp 53) (.tmp 55) 23 3 (.int .i64 0) 8 rfl Try.underlying23 info3 rfl (by decide) (by omega) v307 y306 x10_1 [.int .i64 x10_1] (fun _ => True) (fun _ => False) rfl rfl ?aP (fun _ hk => hk.elim) ?aF ?aO ?aB ?aS ?aL ?_; (case aP => exact rfl); (case aB => exact BU); (case aF => exact (fun _ _ => trivial)); (case aO => exact (U HO308.out)); (case aS => exact (below_size BU)); (case aL => have := LMc20.out; omega); intro v310 w25 ho hb hg hat; rw [← Ny309.out] at ho; have n0_ := Aside0.mk (hb); have n1_ := Aside0.mk (ho); try clear HB; clear HO308; have HB := n0_; have HO311 := n1_; clear n0_ n1_; clear ho hb hg hat; obtain ⟨Ao26, co26, eo26⟩ := Kd.R_slice HO311.out; subst eo26) | (go_at_call 43; (with_reducible refine (ih k1 (by have := HK1.out; omega) _ _ l0 _ _ y309 a2 t312 _ ?side1 ?side2 ?side3 ?side4 A21.out).mono ?_); (case side1 => exact U (Kd.C_below HR0.out HB.out)); (case side2 => exact HC0.out); (case side3 => exact U ((Kd.R_reads' HO311.out).2.2)); (case side4 => exact (Kd.R_reads' HO311.out).2.1); rintro e w27 ⟨rfl, hb⟩; replace HO311 := Aside0.mk (Kd.R_below (U HO311.out) hb); replace HB := BS hb; (try clear hb))))
        go_roundg k1
        case measure => have := HK1.out; omega
        case rel => exact ⟨(wrap64 (x9_1 + t312)), (wrap64 (x10_1 + 1)), sR, sR, H', ⟨by have := HK1.out; omega⟩, ⟨BU⟩⟩
      rw [if_neg c18] at H; have c18b0 : decide (x10_1 ≤ a2) = false := decide_eq_false c18; clear c18; obtain rfl := Option.some.inj H
      go_wp2
      repeat (go_quiet (fail); try go_wp2)
      go_ret
      exact ⟨eR, BU⟩

/-! ### spec_ZeroMany: function 14 -/
def spec_ZeroMany.f (k : Nat) (l0 : List Int) (a1 : Int) : Option (Int) := (spec_FormValid.f k l0).bind fun t313 => (if t313 = true then ((spec_l6In.f a1 1 6).bind fun t314 => (if t314 = true then ((spec_l5Many.f k l0 (([] : List Int)) a1).bind fun t318 => (some t318)) else (some (-1)))) else (some (-1)))
theorem spec_ZeroMany.mono : ∀ a0 a1 k, LeO (spec_ZeroMany.f k a0 a1) (spec_ZeroMany.f (k + 1) a0 a1) := by
  intro a0 a1 k
  unfold spec_ZeroMany.f
  repeat' first
      | (with_reducible exact spec_FormValid.mono _ _)
      | (with_reducible exact spec_l5Many.mono _ _ _ _)
      | (with_reducible exact LeO.refl _)
      | (with_reducible exact LeO.none _)
      | (with_reducible refine LeO.ite ?_ ?_)
      | (with_reducible refine LeO.bind ?_ (fun _ => ?_))
      | exact spec_FormValid.mono _ _
      | exact spec_l5Many.mono _ _ _ _
      | exact LeO.none _
      | refine LeO.ite ?_ ?_
      | refine LeO.bind ?_ (fun _ => ?_)
set_option maxHeartbeats 8000000 in
set_option maxRecDepth 100000 in
theorem spec_ZeroMany.calls (k : Nat) (A0 : Option Addr) (c0 : Nat) (l0 : List Int) (a1 : Int) (r : Int) (w : World) (hr0 : Kd.C (Kd.int .i64) w A0 l0.length l0) (hc0 : l0.length ≤ c0) (h : spec_ZeroMany.f k l0 a1 = some r) :
    Calls Try.prog 14 #[.slice A0 l0.length c0, .int .i64 a1] w fun e w' => e = .returned (.int .i64 r) ∧ Below w.heap.size w w' := by
  have HR0 := Aside0.mk hr0; have HC0 := Aside0.mk hc0; clear hr0 hc0; have HB := Aside0.mk (Below.refl w.heap.size w); unfold spec_ZeroMany.f at h; have H := h; clear h; obtain ⟨t313, A3, H⟩ := bnd H
  by_cases c4 : t313 = true
  · subst c4
    replace H := ifT H; obtain ⟨t314, A5, H⟩ := bnd H
    by_cases c6 : t314 = true
    · subst c6
      replace H := ifT H; obtain ⟨y315, hy315⟩ : ∃ y_ : List Int, y_ = (([] : List Int)) := ⟨_, rfl⟩; replace H : ((spec_l5Many.f k l0 y315 a1).bind fun t318 => (some t318)) = some r := rH hy315 H; have Ny315 := Aside0.mk hy315; clear hy315; obtain ⟨t318, A7, H⟩ := bnd H; obtain rfl := Option.some.inj H; go_enter Try.func14, Try.ntmps14
      go_wp2_with (first | ((with_reducible refine gate_callee (f := 41) rfl ?_); refine goesK (some 6) Try.func41 #[.slice A0 l0.length c0] ?_; (with_reducible refine (spec_FormValid.calls k _ _ l0 true _ ?side1 ?side2 A3.out).mono ?_); (case side1 => exact U HR0.out); (case side2 => exact HC0.out); rintro e w' ⟨rfl, ⟨nd, rfl⟩⟩; refine ⟨_, rfl, ?_⟩) | (go_at_call 42; (with_reducible refine (spec_l6In.calls a1 1 6 true _ A5.out).mono ?_); rintro e w' ⟨rfl, ⟨nd, rfl⟩⟩) | ((with_reducible refine gate_dst (N := 14) rfl ?_); refine Kd.R_lit (Kd.int .i64) _ 3 ?hg (N := 14) ?hd (xs := ([] : List Int)) (inner := []) (ok := fun _ => True) (okp := fun _ => True) ?hr ?hp (fun _ hk => hk) trivial (Below.refl _ _) (Nat.le_refl _) (by simp) ?_; (case hd => rfl); (case hg => rfl); (case hr => first | (go_simp; done) | (go_simp; rfl)); (case hp => exact (Reps.none _ _)); intro v316 w8 ho9 hb hg_ hnew_; clear hg_ hnew_; (first | rw [← Ny315.out] at ho9 | (simp only [Int.reduceToNat] at ho9; rw [← Ny315.out] at ho9)); have HO317 := Aside0.mk (Kd.R_lower ho9 (below_size BU)); replace HB := BS hb; clear hb ho9; obtain ⟨Ao10, co10, eo10⟩ := Kd.R_slice HO317.out; subst eo10) | ((with_reducible refine gate_callee (f := 43) rfl ?_); refine goesK (some 16) Try.func43 #[.slice A0 l0.length c0, .slice Ao10 y315.length co10, .int .i64 a1] ?_; (with_reducible refine (spec_l5Many.calls k _ _ l0 _ _ y315 a1 t318 _ ?side1 ?side2 ?side3 ?side4 A7.out).mono ?_); (case side1 => exact U (Kd.C_below HR0.out HB.out)); (case side2 => exact HC0.out); (case side3 => exact U ((Kd.R_reads' HO317.out).2.2)); (case side4 => exact (Kd.R_reads' HO317.out).2.1); rintro e w11 ⟨rfl, hb⟩; refine ⟨_, rfl, ?_⟩; replace HO317 := Aside0.mk (Kd.R_below (U HO317.out) hb); replace HB := BS hb; (try clear hb)))
      go_ret
      exact ⟨eR, BU⟩
    replace c6 := Bool.eq_false_iff.mpr c6; subst c6; replace H := ifF H; obtain rfl := Option.some.inj H; go_enter Try.func14, Try.ntmps14
    go_wp2_with (first | ((with_reducible refine gate_callee (f := 41) rfl ?_); refine goesK (some 6) Try.func41 #[.slice A0 l0.length c0] ?_; (with_reducible refine (spec_FormValid.calls k _ _ l0 true _ ?side1 ?side2 A3.out).mono ?_); (case side1 => exact U HR0.out); (case side2 => exact HC0.out); rintro e w' ⟨rfl, ⟨nd, rfl⟩⟩; refine ⟨_, rfl, ?_⟩) | (go_at_call 42; (with_reducible refine (spec_l6In.calls a1 1 6 false _ A5.out).mono ?_); rintro e w' ⟨rfl, ⟨nd, rfl⟩⟩))
    go_ret
    exact ⟨eR, BU⟩
  replace c4 := Bool.eq_false_iff.mpr c4; subst c4; replace H := ifF H; obtain rfl := Option.some.inj H; go_enter Try.func14, Try.ntmps14
  go_wp2_with (first | ((with_reducible refine gate_callee (f := 41) rfl ?_); refine goesK (some 6) Try.func41 #[.slice A0 l0.length c0] ?_; (with_reducible refine (spec_FormValid.calls k _ _ l0 false _ ?side1 ?side2 A3.out).mono ?_); (case side1 => exact U HR0.out); (case side2 => exact HC0.out); rintro e w' ⟨rfl, ⟨nd, rfl⟩⟩; refine ⟨_, rfl, ?_⟩))
  go_ret
  exact ⟨eR, BU⟩

end Go.Proofs.Ytpjgcjkodmkemaa.PFnMany
