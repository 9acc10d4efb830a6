import Derived.Test.YtpjgcjkodmkemaaPFnFindZerox0
import Derived.Test.YtpjgcjkodmkemaaPFnFindZerox1
import Derived.Test.YtpjgcjkodmkemaaPFnFindZerox2
namespace Go.Proofs.Ytpjgcjkodmkemaa.PFnFindZero
open Go.RowKit Go.Proofs.YtpjgcjkodmkemaaW.PrintWords Go.Proofs.YtpjgcjkodmkemaaW.PrintLast Go.Proofs.YtpjgcjkodmkemaaW.PrintMore
attribute [local go_sem] max2_int min2_int max_two min_two max_three min_three max_four min_four   -- for this text's walks alone
set_option linter.unusedVariables false
set_option linter.unusedSimpArgs false

/-! ### impl_plain: function 40 -/
mutual
def impl_plain.j1 : Nat → List Int → Int → Option (List Int)
  | 0, _, _ => none
  | k + 1, x0, x3 => impl_plain.l1 k x3 (([] : List Int)) x0 (x0.length : Int) 0
def impl_plain.l1 : Nat → Int → List Int → List Int → Int → Int → Option (List Int)
  | 0, _, _, _, _, _ => none
  | k + 1, x3, x6, x25, x26, x27 => if x27 < x26 then (if 0 ≤ x27 then (if x27 < (x25.length : Int) then (if x3 = 0 then (none) else (if x6.length < 17592186044416 then (impl_plain.l1 k x3 (x6 ++ [wrap64 (Int.tdiv (rd x25 x27) x3)]) x25 x26 (wrap64 (x27 + 1))) else (none))) else (none)) else (none)) else (some x6)
def impl_plain.l0 : Nat → List Int → Int → List Int → Int → Int → Option (List Int)
  | 0, _, _, _, _, _ => none
  | k + 1, x0, x3, x11, x12, x13 => if x13 < x12 then (if 0 ≤ x13 then (if x13 < (x11.length : Int) then (if (rd x11 x13) = 0 then (impl_plain.l0 k x0 x3 x11 x12 (wrap64 (x13 + 1))) else (if (rd x11 x13) < 0 then (impl_plain.j1 k x0 (wrap64 (-x3))) else (impl_plain.j1 k x0 x3))) else (none)) else (none)) else (impl_plain.j1 k x0 x3)
end
def impl_plain.f (k : Nat) (l0 : List Int) : Option (List Int) := (impl_gcd.f k l0).bind fun t197 => (impl_plain.l0 k l0 t197 l0 (l0.length : Int) 0)
theorem impl_plain.mono_l : ∀ k, (∀ y0 y1, LeO (impl_plain.j1 k y0 y1) (impl_plain.j1 (k + 1) y0 y1)) ∧ (∀ y0 y1 y2 y3 y4, LeO (impl_plain.l1 k y0 y1 y2 y3 y4) (impl_plain.l1 (k + 1) y0 y1 y2 y3 y4)) ∧ (∀ y0 y1 y2 y3 y4, LeO (impl_plain.l0 k y0 y1 y2 y3 y4) (impl_plain.l0 (k + 1) y0 y1 y2 y3 y4))
  | 0 => ⟨fun _ _ r h => by simp [impl_plain.j1] at h, fun _ _ _ _ _ r h => by simp [impl_plain.l1] at h, fun _ _ _ _ _ r h => by simp [impl_plain.l0] at h⟩
  | k + 1 => by
    obtain ⟨ih0, ih1, ih2⟩ := impl_plain.mono_l k
    refine ⟨?_, ?_, ?_⟩ <;> intros <;> (first | unfold impl_plain.j1 | unfold impl_plain.l1 | unfold impl_plain.l0) <;> (with_reducible repeat' first | exact ih0 _ _ | exact ih1 _ _ _ _ _ | exact ih2 _ _ _ _ _ | exact impl_gcd.mono _ _ | exact LeO.refl _ | exact LeO.none _ | refine LeO.ite ?_ ?_ | refine LeO.bind ?_ (fun _ => ?_))
theorem impl_plain.mono : ∀ a0 k, LeO (impl_plain.f k a0) (impl_plain.f (k + 1) a0) := by
  intro a0 k
  obtain ⟨ih0, ih1, ih2⟩ := impl_plain.mono_l k
  unfold impl_plain.f
  with_reducible repeat' first | exact ih0 _ _ | exact ih1 _ _ _ _ _ | exact ih2 _ _ _ _ _ | exact impl_gcd.mono _ _ | exact LeO.refl _ | exact LeO.none _ | refine LeO.ite ?_ ?_ | refine LeO.bind ?_ (fun _ => ?_)
set_option maxHeartbeats 8000000 in
set_option maxRecDepth 100000 in
theorem impl_plain.calls (k : Nat) (A0 : Option Addr) (c0 : Nat) (l0 : List Int) (r : List Int) (w : World) (hr0 : Kd.C (Kd.int .i64) w A0 l0.length l0) (hc0 : l0.length ≤ c0) (h : impl_plain.f k l0 = some r) :
    Calls Try.prog 40 #[.slice A0 l0.length c0] w fun e w' => ∃ v0_ : Value, e = .returned (v0_) ∧ Kd.R (Kd.int .i64) 3 w' w.heap.size (fun _ => True) v0_ r ∧ Below w.heap.size w w' := by
  have HR0 := Aside0.mk hr0; have HC0 := Aside0.mk hc0; clear hr0 hc0; have HB := Aside0.mk (Below.refl w.heap.size w); unfold impl_plain.f at h; have H := h; clear h; obtain ⟨t197, A2, H⟩ := bnd H; have HC3 := Aside0.mk H; clear H; go_enter Try.func40, Try.ntmps40
  go_upto_block 0 with (first | ((with_reducible refine gate_callee (f := 25) rfl ?_); refine goesK (some 10) Try.func25 #[.slice A0 l0.length c0] ?_; (with_reducible refine (impl_gcd.calls k _ _ l0 t197 _ ?side1 ?side2 A2.out).mono ?_); (case side1 => exact U HR0.out); (case side2 => exact HC0.out); rintro e w4 ⟨rfl, hb⟩; refine ⟨_, rfl, ?_⟩; replace HB := BS hb; (try clear hb)))
  (try simp only [Act.put, List.setIfInBounds_toArray, List.set_cons_zero, List.set_cons_succ])
  go_cut [3] (fun v3 wc => ∃ (kq : Nat) (x3_2 : Int), v3 = .int .i64 x3_2 ∧ Aside0 (impl_plain.j1 kq l0 x3_2 = some r) ∧ Aside0 (kq ≤ k) ∧ Aside0 (Below w.heap.size w wc))
  case first =>
    have H := HC3.out; clear HC3; have H' := Aside0.mk H; clear H
    go_wp2
    go_loopg [3, 13] k (fun kq v3 v13 w' => ∃ (x3_1 : Int) (x13_1 : Int), v3 = .int .i64 x3_1 ∧ v13 = .int .i64 x13_1 ∧ Aside0 (impl_plain.l0 kq l0 x3_1 l0 (l0.length : Int) x13_1 = some r) ∧ Aside0 (kq ≤ k) ∧ Aside0 (Below w.heap.size w w'))
    case atStart => exact ⟨(t197), (0), sR, sR, H', ⟨Nat.le_refl _⟩, ⟨BU⟩⟩
    case round =>
      clear H'; obtain ⟨x3_1, x13_1, rfl, rfl, HA, HK1, HB⟩ := hrel; cases gk with
      | zero => exact absurd HA.out (by simp [impl_plain.l0])
      | succ k1 =>
        have H := HA.out; clear HA; simp only [impl_plain.l0] at H
        by_cases c5 : x13_1 < (l0.length : Int)
        · rw [if_pos c5] at H
          have c5b0 : decide (x13_1 < (l0.length : Int)) = true := decide_eq_true c5; clear c5
          (first | rw [c5b0] | (simp only [i64_w, i32_w]; rw [c5b0]) | skip)
          obtain ⟨c6, H⟩ := ifN H; have c6b0 : decide (0 ≤ x13_1) = true := decide_eq_true c6; clear c6; obtain ⟨c7, H⟩ := ifN H; have c7b0 : decide (x13_1 < (l0.length : Int)) = true := decide_eq_true c7; clear c7
          by_cases c8 : (rd l0 x13_1) = 0
          · rw [if_pos c8] at H
            have c8b0 : ((rd l0 x13_1) == 0) = true := beq_iff_eq.mpr c8; have c8b1 : ((rd l0 x13_1) != 0) = false := bne_eq_false_iff_eq.mpr c8; clear c8; have H' := Aside0.mk H; clear H; have p198 : 0 ≤ (x13_1 : Int) := oD; have q198 : x13_1 < (l0.length : Int) := oD; obtain ⟨ad198, e198, hx198_0⟩ := Kd.at_int HR0.out x13_1 p198 q198; cases e198; replace hx198_0 := (HB.out.cell (World.block_lt_of_cell? w _ hx198_0)).trans hx198_0; replace p198 := eq_true p198; replace q198 := eq_true q198
            go_wp2
            go_roundg k1
            case measure => have := HK1.out; omega
            case rel => exact ⟨(x3_1), (wrap64 (x13_1 + 1)), sR, sR, H', ⟨by have := HK1.out; omega⟩, ⟨BU⟩⟩
          rw [if_neg c8] at H; have c8b0 : ((rd l0 x13_1) == 0) = false := beq_eq_false_iff_ne.mpr c8; have c8b1 : ((rd l0 x13_1) != 0) = true := bne_iff_ne.mpr c8
          by_cases c9 : (rd l0 x13_1) < 0
          · rw [if_pos c9] at H
            have c9b0 : decide ((rd l0 x13_1) < 0) = true := decide_eq_true c9; clear c9; have H' := Aside0.mk H; clear H; have p198 : 0 ≤ (x13_1 : Int) := oD; have q198 : x13_1 < (l0.length : Int) := oD; obtain ⟨ad198, e198, hx198_0⟩ := Kd.at_int HR0.out x13_1 p198 q198; cases e198; replace hx198_0 := (HB.out.cell (World.block_lt_of_cell? w _ hx198_0)).trans hx198_0; replace p198 := eq_true p198; replace q198 := eq_true q198
            go_wp2
            go_meet
            case rel => exact ⟨_, (wrap64 (-x3_1)), sR, H', ⟨by have := HK1.out; first | omega | exact Nat.le_refl _⟩, ⟨BU⟩⟩
          rw [if_neg c9] at H; have c9b0 : decide ((rd l0 x13_1) < 0) = false := decide_eq_false c9; clear c9; have H' := Aside0.mk H; clear H; have p198 : 0 ≤ (x13_1 : Int) := oD; have q198 : x13_1 < (l0.length : Int) := oD; obtain ⟨ad198, e198, hx198_0⟩ := Kd.at_int HR0.out x13_1 p198 q198; cases e198; replace hx198_0 := (HB.out.cell (World.block_lt_of_cell? w _ hx198_0)).trans hx198_0; replace p198 := eq_true p198; replace q198 := eq_true q198
          go_wp2
          go_meet
          case rel => exact ⟨_, (x3_1), sR, H', ⟨by have := HK1.out; first | omega | exact Nat.le_refl _⟩, ⟨BU⟩⟩
        rw [if_neg c5] at H; have c5b0 : decide (x13_1 < (l0.length : Int)) = false := decide_eq_false c5; clear c5
        (first | rw [c5b0] | (simp only [i64_w, i32_w]; rw [c5b0]) | skip)
        have H' := Aside0.mk H; clear H
        go_wp2
        go_meet
        case rel => exact ⟨_, (x3_1), sR, H', ⟨by have := HK1.out; first | omega | exact Nat.le_refl _⟩, ⟨BU⟩⟩
  case rest =>
    clear HC3; obtain ⟨kq, x3_2, rfl, HA, HJ2, HB⟩ := hcut; cases kq with
    | zero => exact absurd HA.out (by simp [impl_plain.j1])
    | succ kj2 =>
      have H := HA.out; clear HA; simp only [impl_plain.j1] at H; obtain ⟨y199, hy199⟩ : ∃ y_ : List Int, y_ = (([] : List Int)) := ⟨_, rfl⟩; replace H : (impl_plain.l1 kj2 x3_2 y199 l0 (l0.length : Int) 0) = some r := rH hy199 H; have Ny199 := Aside0.mk hy199; clear hy199; have H' := Aside0.mk H; clear H
      go_wp2_with (first | ((with_reducible refine gate_dst (N := 24) rfl ?_); refine Kd.R_lit (Kd.int .i64) _ 3 ?hg (N := 24) ?hd (xs := ([] : List Int)) (inner := []) (ok := fun _ => True) (okp := fun _ => True) ?hr ?hp (fun _ hk => hk) trivial (Below.refl _ _) (Nat.le_refl _) (by simp) ?_; (case hd => rfl); (case hg => rfl); (case hr => first | (go_simp; done) | (go_simp; rfl)); (case hp => exact (Reps.none _ _)); intro v200 w10 ho11 hb hg_ hnew_; clear hg_ hnew_; (first | rw [← Ny199.out] at ho11 | (simp only [Int.reduceToNat] at ho11; rw [← Ny199.out] at ho11)); have HO201 := Aside0.mk (Kd.R_lower ho11 (below_size BU)); replace HB := BS hb; clear hb ho11))
      go_loopg [6, 27] kj2 (fun kq v6 v27 w' => ∃ (x6_2 : List Int) (x27_2 : Int), v27 = .int .i64 x27_2 ∧ Aside0 (impl_plain.l1 kq x3_2 x6_2 l0 (l0.length : Int) x27_2 = some r) ∧ Aside0 (kq ≤ kj2) ∧ Aside0 (Kd.R (Kd.int .i64) 3 w' w.heap.size (fun _ => True) v6 x6_2) ∧ Aside0 (Below w.heap.size w w'))
      case atStart => exact ⟨(y199), (0), sR, H', ⟨Nat.le_refl _⟩, ⟨U HO201.out⟩, ⟨BU⟩⟩
      case round =>
        clear H'; obtain ⟨x6_2, x27_2, rfl, HA, HK2, HO_6, HB⟩ := hrel; cases gk with
        | zero => exact absurd HA.out (by simp [impl_plain.l1])
        | succ k2 =>
          have H := HA.out; clear HA; simp only [impl_plain.l1] at H
          by_cases c12 : x27_2 < (l0.length : Int)
          · rw [if_pos c12] at H
            have c12b0 : decide (x27_2 < (l0.length : Int)) = true := decide_eq_true c12; clear c12; obtain ⟨c13, H⟩ := ifN H; have c13b0 : decide (0 ≤ x27_2) = true := decide_eq_true c13; clear c13; obtain ⟨c14, H⟩ := ifN H; have c14b0 : decide (x27_2 < (l0.length : Int)) = true := decide_eq_true c14; clear c14; obtain ⟨c15, H⟩ := ifM H; have c15b0 : (x3_2 == 0) = false := beq_eq_false_iff_ne.mpr c15; have c15b1 : (x3_2 != 0) = true := bne_iff_ne.mpr c15; obtain ⟨c16, H⟩ := ifN H; have LMc16 := Aside0.mk c16; clear c16; obtain ⟨y203, hy203⟩ : ∃ y_ : List Int, y_ = (x6_2 ++ [wrap64 (Int.tdiv (rd l0 x27_2) x3_2)]) := ⟨_, rfl⟩; replace H : (impl_plain.l1 k2 x3_2 y203 l0 (l0.length : Int) (wrap64 (x27_2 + 1))) = some r := rH hy203 H; have Ny203 := Aside0.mk hy203; clear hy203; have H' := Aside0.mk H; clear H; have p202 : 0 ≤ (x27_2 : Int) := oD; have q202 : x27_2 < (l0.length : Int) := oD; obtain ⟨ad202, e202, hx202_0⟩ := Kd.at_int HR0.out x27_2 p202 q202; cases e202; replace hx202_0 := (HB.out.cell (World.block_lt_of_cell? w _ hx202_0)).trans hx202_0; replace p202 := eq_true p202; replace q202 := eq_true q202
            go_wp2_with (first | ((with_reducible refine gate_builtin (b := .append) (xs := #[.tmp 31, .tmp 35]) rfl ?_); at_builtin; refine Kd.R_append (Kd.int .i64) (w0 := w) w.heap.size rfl (.tmp 31) (.tmp 35) 23 3 (.int .i64 0) 8 rfl Try.underlying23 info3 rfl (by decide) (by omega) u6 x6_2 (wrap64 (Int.tdiv (rd l0 x27_2) x3_2)) [.int .i64 (wrap64 (Int.tdiv (rd l0 x27_2) x3_2))] (fun _ => True) (fun _ => False) rfl rfl ?aP (fun _ hk => hk.elim) ?aF ?aO ?aB ?aS ?aL ?_; (case aP => exact rfl); (case aB => exact BU); (case aF => exact (fun _ _ => trivial)); (case aO => exact (U HO_6.out)); (case aS => exact (below_size BU)); (case aL => have := LMc16.out; omega); intro v204 w17 ho hb hg hat; rw [← Ny203.out] at ho; have n0_ := Aside0.mk (hb); have n1_ := Aside0.mk (ho); try clear HB; clear HO_6; have HB := n0_; have HO205 := n1_; clear n0_ n1_; clear ho hb hg hat))
            go_roundg k2
            case measure => have := HJ2.out; have := HK2.out; omega
            case rel => exact ⟨(y203), (wrap64 (x27_2 + 1)), sR, H', ⟨by have := HJ2.out; have := HK2.out; omega⟩, ⟨U HO205.out⟩, ⟨BU⟩⟩
          rw [if_neg c12] at H; have c12b0 : decide (x27_2 < (l0.length : Int)) = false := decide_eq_false c12; clear c12; obtain rfl := Option.some.inj H
          go_wp2
          go_ret
          exact ⟨_, eR, U HO_6.out, BU⟩

/-! ### impl_coreOf: function 44 -/
mutual
def impl_coreOf.l0 : Nat → Int → Int → List Int → Int → Int → Option (Int × Int)
  | 0, _, _, _, _, _ => none
  | k + 1, x0, x4, x8, x9, x10 => if x10 < x9 then (if 0 ≤ x10 then (if x10 < (x8.length : Int) then (impl_coreOf.l1 k x0 x4 (rd x8 x10) x8 x9 x10) else (none)) else (none)) else (some (x0, x4))
def impl_coreOf.l1 : Nat → Int → Int → Int → List Int → Int → Int → Option (Int × Int)
  | 0, _, _, _, _, _, _ => none
  | k + 1, x0, x4, x6, x8, x9, x10 => if (wrap64 (x6 * x6)) = 0 then (none) else (if (Int.tmod x0 (wrap64 (x6 * x6))) = 0 then (impl_coreOf.l1 k (wrap64 (Int.tdiv x0 (wrap64 (x6 * x6)))) (wrap64 (x4 * x6)) x6 x8 x9 x10) else (impl_coreOf.l0 k x0 x4 x8 x9 (wrap64 (x10 + 1))))
end
def impl_coreOf.f (k : Nat) (a0 : Int) : Option (Int × Int) := (impl_primesOf.f k a0).bind fun t206 => (impl_coreOf.l0 k a0 1 t206 (t206.length : Int) 0)
theorem impl_coreOf.mono_l : ∀ k, (∀ y0 y1 y2 y3 y4, LeO (impl_coreOf.l0 k y0 y1 y2 y3 y4) (impl_coreOf.l0 (k + 1) y0 y1 y2 y3 y4)) ∧ (∀ y0 y1 y2 y3 y4 y5, LeO (impl_coreOf.l1 k y0 y1 y2 y3 y4 y5) (impl_coreOf.l1 (k + 1) y0 y1 y2 y3 y4 y5))
  | 0 => ⟨fun _ _ _ _ _ r h => by simp [impl_coreOf.l0] at h, fun _ _ _ _ _ _ r h => by simp [impl_coreOf.l1] at h⟩
  | k + 1 => by
    obtain ⟨ih0, ih1⟩ := impl_coreOf.mono_l k
    refine ⟨?_, ?_⟩ <;> intros <;> (first | unfold impl_coreOf.l0 | unfold impl_coreOf.l1) <;> (with_reducible repeat' first | exact ih0 _ _ _ _ _ | exact ih1 _ _ _ _ _ _ | exact impl_primesOf.mono _ _ | exact LeO.refl _ | exact LeO.none _ | refine LeO.ite ?_ ?_ | refine LeO.bind ?_ (fun _ => ?_))
theorem impl_coreOf.mono : ∀ a0 k, LeO (impl_coreOf.f k a0) (impl_coreOf.f (k + 1) a0) := by
  intro a0 k
  obtain ⟨ih0, ih1⟩ := impl_coreOf.mono_l k
  unfold impl_coreOf.f
  with_reducible repeat' first | exact ih0 _ _ _ _ _ | exact ih1 _ _ _ _ _ _ | exact impl_primesOf.mono _ _ | exact LeO.refl _ | exact LeO.none _ | refine LeO.ite ?_ ?_ | refine LeO.bind ?_ (fun _ => ?_)
set_option maxHeartbeats 8000000 in
set_option maxRecDepth 100000 in
theorem impl_coreOf.calls (k : Nat) (a0 : Int) (r1 : Int) (r2 : Int) (w : World) (h : impl_coreOf.f k a0 = some (r1, r2)) :
    Calls Try.prog 44 #[.int .i64 a0] w fun e w' => e = .returned (.tuple #[.int .i64 r1, .int .i64 r2]) ∧ Below w.heap.size w w' := by
  have HB := Aside0.mk (Below.refl w.heap.size w); unfold impl_coreOf.f at h; have H := h; clear h; obtain ⟨t206, A2, H⟩ := bnd H; have H' := Aside0.mk H; clear H; go_enter Try.func44, Try.ntmps44
  go_wp2_with (first | ((with_reducible refine gate_callee (f := 64) rfl ?_); refine goesK (some 8) Try.func64 #[.int .i64 a0] ?_; (with_reducible refine (impl_primesOf.calls k a0 t206 _ A2.out).mono ?_); rintro e w3 ⟨v207, rfl, ho0, hb⟩; refine ⟨_, rfl, ?_⟩; have HO208 := Aside0.mk (Kd.R_lower ho0 (below_size BU)); replace HB := BS hb; (try clear hb); (try clear ho0); obtain ⟨Ao4, co4, eo4⟩ := Kd.R_slice HO208.out; subst eo4))
  go_loopg [0, 4, 10] k (fun kq v0 v4 v10 w' => ∃ (x0_1 : Int) (x4_1 : Int) (x10_1 : Int), v0 = .int .i64 x0_1 ∧ v4 = .int .i64 x4_1 ∧ v10 = .int .i64 x10_1 ∧ Aside0 (impl_coreOf.l0 kq x0_1 x4_1 t206 (t206.length : Int) x10_1 = some (r1, r2)) ∧ Aside0 (kq ≤ k) ∧ Aside0 (Kd.R (Kd.int .i64) 3 w' w.heap.size (fun _ => True) (.slice Ao4 t206.length co4) t206) ∧ Aside0 (Below w.heap.size w w'))
  case atStart => exact ⟨(a0), (1), (0), sR, sR, sR, H', ⟨Nat.le_refl _⟩, ⟨U HO208.out⟩, ⟨BU⟩⟩
  case round =>
    clear H'; obtain ⟨x0_1, x4_1, x10_1, rfl, rfl, rfl, HA, HK1, HO_8, HB⟩ := hrel; cases gk with
    | zero => exact absurd HA.out (by simp [impl_coreOf.l0])
    | succ k1 =>
      have H := HA.out; clear HA; simp only [impl_coreOf.l0] at H
      by_cases c5 : x10_1 < (t206.length : Int)
      · rw [if_pos c5] at H
        have c5b0 : decide (x10_1 < (t206.length : Int)) = true := decide_eq_true c5; clear c5; obtain ⟨c6, H⟩ := ifN H; have c6b0 : decide (0 ≤ x10_1) = true := decide_eq_true c6; clear c6; obtain ⟨c7, H⟩ := ifN H; have c7b0 : decide (x10_1 < (t206.length : Int)) = true := decide_eq_true c7; clear c7; have H' := Aside0.mk H; clear H; have p209 : 0 ≤ (x10_1 : Int) := oD; have q209 : x10_1 < (t206.length : Int) := oD; obtain ⟨ad209, e209, hx209_0⟩ := Kd.at_int (Kd.R_reads' HO_8.out).2.2 x10_1 p209 q209; cases e209; replace p209 := eq_true p209; replace q209 := eq_true q209
        go_wp2
        go_loopg [0, 4] k1 (fun kq v0 v4 w' => ∃ (x0_2 : Int) (x4_2 : Int), v0 = .int .i64 x0_2 ∧ v4 = .int .i64 x4_2 ∧ Aside0 (impl_coreOf.l1 kq x0_2 x4_2 (rd t206 x10_1) t206 (t206.length : Int) x10_1 = some (r1, r2)) ∧ Aside0 (kq ≤ k1) ∧ Aside0 (Kd.R (Kd.int .i64) 3 w' w.heap.size (fun _ => True) (.slice (some ad209) t206.length co4) t206) ∧ Aside0 (Below w.heap.size w w'))
        case atStart => exact ⟨(x0_1), (x4_1), sR, sR, H', ⟨Nat.le_refl _⟩, ⟨U HO_8.out⟩, ⟨BU⟩⟩
        case round =>
          clear H'; (try clear c5); (try clear c5b0); (try clear c6); (try clear c6b0); (try clear c7); (try clear c7b0); (try clear hx209_0); (try clear p209); (try clear q209); obtain ⟨x0_2, x4_2, rfl, rfl, HA, HK2, HO_8, HB⟩ := hrel; cases gk with
          | zero => exact absurd HA.out (by simp [impl_coreOf.l1])
          | succ k2 =>
            have H := HA.out; clear HA; simp only [impl_coreOf.l1] at H; obtain ⟨c8, H⟩ := ifM H; have c8b0 : ((wrap64 ((rd t206 x10_1) * (rd t206 x10_1))) == 0) = false := beq_eq_false_iff_ne.mpr c8; have c8b1 : ((wrap64 ((rd t206 x10_1) * (rd t206 x10_1))) != 0) = true := bne_iff_ne.mpr c8
            by_cases c9 : (Int.tmod x0_2 (wrap64 ((rd t206 x10_1) * (rd t206 x10_1)))) = 0
            · rw [if_pos c9] at H
              have c9b0 : ((Int.tmod x0_2 (wrap64 ((rd t206 x10_1) * (rd t206 x10_1)))) == 0) = true := beq_iff_eq.mpr c9; have c9b1 : ((Int.tmod x0_2 (wrap64 ((rd t206 x10_1) * (rd t206 x10_1)))) != 0) = false := bne_eq_false_iff_eq.mpr c9; clear c9; have H' := Aside0.mk H; clear H
              go_wp2
              go_roundg k2
              case measure => have := HK1.out; have := HK2.out; omega
              case rel => exact ⟨(wrap64 (Int.tdiv x0_2 (wrap64 ((rd t206 x10_1) * (rd t206 x10_1))))), (wrap64 (x4_2 * (rd t206 x10_1))), sR, sR, H', ⟨by have := HK1.out; have := HK2.out; omega⟩, ⟨U HO_8.out⟩, ⟨BU⟩⟩
            rw [if_neg c9] at H; have c9b0 : ((Int.tmod x0_2 (wrap64 ((rd t206 x10_1) * (rd t206 x10_1)))) == 0) = false := beq_eq_false_iff_ne.mpr c9; have c9b1 : ((Int.tmod x0_2 (wrap64 ((rd t206 x10_1) * (rd t206 x10_1)))) != 0) = true := bne_iff_ne.mpr c9; have H' := Aside0.mk H; clear H
            go_wp2
            go_roundg k2
            case measure => have := HK1.out; have := HK2.out; omega
            case rel => exact ⟨(x0_2), (x4_2), (wrap64 (x10_1 + 1)), sR, sR, sR, H', ⟨by have := HK1.out; have := HK2.out; omega⟩, ⟨U HO_8.out⟩, ⟨BU⟩⟩
      rw [if_neg c5] at H; have c5b0 : decide (x10_1 < (t206.length : Int)) = false := decide_eq_false c5
      try (have c5bz : decide (x10_1 < (x11_1.length : Int)) = false := by rw [← hl11_1]; exact c5b0)
      clear c5; simp only [Option.some.injEq, Prod.mk.injEq] at H; obtain ⟨rfl, rfl⟩ := H
      go_wp2
      go_ret2
      exact ⟨eR, BU⟩

/-! ### slices_Clone_int_int: function 65 -/
/-- A copy, in new memory. -/
def slices_Clone_int_int.f (l0 : List Int) : Option (List Int) := if l0.length < 17592186044416 then some l0 else none
set_option maxHeartbeats 4000000 in
set_option maxRecDepth 100000 in
theorem slices_Clone_int_int.calls (A0 : Option Addr) (c0 : Nat) (l0 : List Int) (r : List Int) (w : World) (hr0 : Kd.C (Kd.int .i64) w A0 l0.length l0) (hc0 : l0.length ≤ c0) (h : slices_Clone_int_int.f l0 = some r) :
    Calls Try.prog 65 #[.slice A0 l0.length c0] w fun e w' => ∃ v0_ : Value, e = .returned (v0_) ∧ Kd.R (Kd.int .i64) 3 w' w.heap.size (fun _ => True) v0_ r ∧ Below w.heap.size w w' := by
  have hl : l0.length < 17592186044416 := by
    unfold slices_Clone_int_int.f at h
    split at h
    · assumption
    · cases h
  have hr : l0 = r := by
    unfold slices_Clone_int_int.f at h; rw [if_pos hl] at h
    exact Option.some.inj h
  have LM := Aside0.mk hl; have HR0 := Aside0.mk hr0; have HC0 := Aside0.mk hc0; have HB := Aside0.mk (Below.refl w.heap.size w); clear h hl hc0; cases A0 with
  | none =>
    have hl0 : l0 = [] := by
      rcases Nat.eq_zero_or_pos l0.length with h0 | h0
      · exact List.eq_nil_of_length_eq_zero h0
      · obtain ⟨ad, he, _⟩ := hr0.2.2 h0
        cases he
    subst hl0; subst hr; clear hr0 LM
    have he := fun (w : World) => Go.run_eql_slice_nil (P := Try.prog) w 23 3 none 0 c0 Try.underlying23
    go_enter Try.func65, Try.ntmps65
    go_wp2
    go_ret
    exact ⟨_, rfl, Kd.R_nil _ _ _ _ _, HB.out⟩
  | some ad =>
    subst hr; clear hr0
    have he := fun (w : World) => Go.run_eql_slice_nil (P := Try.prog) w 23 3 (some ad) l0.length c0 Try.underlying23
    go_enter Try.func65, Try.ntmps65
    go_wp2_with (first | ((with_reducible refine gate_dst (N := 5) rfl ?_); refine Kd.R_lit (Kd.int .i64) _ 3 ?hg (N := 5) ?hd (xs := ([] : List Int)) (inner := []) (ok := fun _ => True) (okp := fun _ => True) ?hr ?hp (fun _ hk => hk) trivial (Below.refl _ _) (Nat.le_refl _) (by simp) ?_; (case hd => rfl); (case hg => rfl); (case hr => first | (go_simp; done) | (go_simp; rfl)); (case hp => exact (Reps.none _ _)); intro v1 w4 ho5 hb hg_ hnew_; clear hg_ hnew_; have n0_ := Aside0.mk ho5; have n1_ := Aside0.mk hb; try clear HB; have HO := n0_; have HB := n1_; clear n0_ n1_ hb ho5) | ((with_reducible refine gate_builtin (b := .append) (xs := #[.tmp 5, .tmp 6]) rfl ?_); at_builtin; refine Kd.R_append_rows (Kd.int .i64) (w0 := w) w.heap.size rfl (.tmp 5) (.tmp 6) 23 3 (.int .i64 0) 8 rfl Try.underlying23 info3 rfl (by decide) (by omega) v1 [] l0 _ _ _ (fun _ => True) (fun _ => False) rfl rfl ?aO ?aR (fun _ _ h => h) (fun _ h => h.elim) ?aF ?aB ?aS ?aL ?_; (case aR => exact Kd.C_below HR0.out HB.out); (case aB => exact HB.out); (case aF => exact (fun _ _ => trivial)); (case aO => exact HO.out); (case aS => exact below_size HB.out); (case aL => have := LM.out; simp; omega); intro v126 w29 ho hb hg hat; have n1_ := Aside0.mk hb; have n2_ := Aside0.mk ho; clear HB HO; have HB := n1_; have HO := n2_; clear n1_ n2_ ho hb hg hat))
    go_ret
    exact ⟨_, rfl, by simpa using HO.out, HB.out⟩

/-! ### impl_sharedPrime (the numbers are those of seat a3; it uses the short forms of tpl/Sq) -/
/-- Of two places: what the least common prime of the terms is, or what the rest answers. -/
def spG (k : Nat) (l0 : List Int) (i j : Int) (rest : Option (Int × Int × Int)) : Option (Int × Int × Int) :=
  (impl_gcd.f k [rd l0 i, rd l0 j]).bind fun d => if d > 1 then ((impl_primesOf.f k d).bind fun ps => if 0 < (ps.length : Int) then some (i, j, rd ps 0) else none) else rest
/-- .. when so many pairs of places are left. -/
def spC (k : Nat) (l0 : List Int) : Nat → Option (Int × Int × Int)
  | 0 => some (0, 0, 0)
  | c + 1 => spG k l0 (if c = 0 then 1 else 0) (if c = 2 then 1 else 2) (spC k l0 c)
/-- The first two places of three terms that some prime divides, and the least such prime. -/
def impl_sharedPrime.f (k : Nat) (l0 : List Int) : Option (Int × Int × Int) := if l0.length = 3 then spC k l0 3 else none
theorem spG_mono {a b : Option (Int × Int × Int)} (k : Nat) (l0 : List Int) (i j : Int) (h : LeO a b) : LeO (spG k l0 i j a) (spG (k + 1) l0 i j b) := by
  unfold spG
  with_reducible repeat' first | exact impl_gcd.mono _ _ | exact impl_primesOf.mono _ _ | exact h | exact LeO.refl _ | exact LeO.none _ | refine LeO.ite ?_ ?_ | refine LeO.bind ?_ (fun _ => ?_)
theorem spC_mono (k : Nat) (l0 : List Int) : ∀ c, LeO (spC k l0 c) (spC (k + 1) l0 c)
  | 0 => LeO.refl _
  | c + 1 => spG_mono _ _ _ _ (spC_mono k l0 c)
theorem impl_sharedPrime.mono : ∀ a0 k, LeO (impl_sharedPrime.f k a0) (impl_sharedPrime.f (k + 1) a0) := by
  intro a0 k
  unfold impl_sharedPrime.f
  exact LeO.ite (spC_mono _ _ _) (LeO.none _)
abbrev spBlock : Obj := .cells #[Value.int IntKind.i64 0, Value.int IntKind.i64 1, Value.int IntKind.i64 0, Value.int IntKind.i64 2, Value.int IntKind.i64 1, Value.int IntKind.i64 2] 73 (0, 0)
/-- The pair that comes when so many are left, and what follows. -/
theorem spC_at {k : Nat} {l0 : List Int} {c : Nat} {r : Option (Int × Int × Int)} (h : spC k l0 (c + 1) = r) (hc : c < 3) {W : World} {g : Nat} (hb : W.heap[g]? = some spBlock) :
    ∃ i j : Int, 0 ≤ i ∧ i ≤ 2 ∧ 0 ≤ j ∧ j ≤ 2 ∧ W.cell? ⟨g, (2 - c) * 2, none⟩ = some (.int .i64 i) ∧ W.cell? ⟨g, (2 - c) * 2 + 1, none⟩ = some (.int .i64 j) ∧ spG k l0 i j (spC k l0 c) = r := by
  rcases (by omega : c = 0 ∨ c = 1 ∨ c = 2) with rfl | rfl | rfl
  · exact ⟨1, 2, by decide, by decide, by decide, by decide, (blk_cell hb 4).trans rfl, (blk_cell hb 5).trans rfl, h⟩
  · exact ⟨0, 2, by decide, by decide, by decide, by decide, (blk_cell hb 2).trans rfl, (blk_cell hb 3).trans rfl, h⟩
  exact ⟨0, 1, by decide, by decide, by decide, by decide, (blk_cell hb 0).trans rfl, (blk_cell hb 1).trans rfl, h⟩
theorem pair_C {W : World} {g : Nat} {x y : Int} (h0 : W.cell? ⟨g, 0, none⟩ = some (.int .i64 x)) (h1 : W.cell? ⟨g, 1, none⟩ = some (.int .i64 y)) : Kd.C (Kd.int .i64) W (some ⟨g, 0, none⟩) 2 [x, y] := by
  refine ⟨rfl, by decide, fun _ => ⟨_, rfl, fun j p hj => ⟨[.int .i64 p], rfl, rfl, fun i u hu => ?_⟩⟩⟩
  match i, hu with
  | 0, hu =>
    obtain rfl := Option.some.inj hu
    match j, hj with
    | 0, hj => obtain rfl := Option.some.inj hj; exact h0
    | 1, hj => obtain rfl := Option.some.inj hj; exact h1
    | j + 2, hj => simp at hj
  | i + 1, hu => simp at hu
set_option maxHeartbeats 4000000 in
set_option maxRecDepth 100000 in
theorem impl_sharedPrime.calls (k : Nat) (A0 : Option Addr) (c0 : Nat) (l0 : List Int) (r0 r1 r2 : Int) (w : World) (hr0 : Kd.C (Kd.int .i64) w A0 l0.length l0) (hc0 : l0.length ≤ c0) (h : impl_sharedPrime.f k l0 = some (r0, r1, r2)) :
    Calls Try.prog 66 #[.slice A0 l0.length c0] w fun e w' => e = .returned (.tuple #[.int .i64 r0, .int .i64 r1, .int .i64 r2]) ∧ Below w.heap.size w w' := by
  have HR0 := Aside0.mk hr0; have HC0 := Aside0.mk hc0; clear hr0 hc0; have F0 := Aside0.mk (Below.refl w.heap.size w); unfold impl_sharedPrime.f at h; obtain ⟨h3, H⟩ := ifN h; clear h; have HS := Aside0.mk H; have H3 := Aside0.mk h3; clear H h3; go_enter Try.func66, Try.ntmps66
  go_wp2
  go_loopg [13] 4 (fun kq v13 W1 => ∃ n c : Nat, v13 = .int .i64 (n : Int) ∧ Aside0 (c + 1 = kq) ∧ Aside0 (n + c = 3) ∧ Aside0 (spC k l0 c = some (r0, r1, r2)) ∧ Aside0 (W1.heap[w.heap.size]? = some spBlock) ∧ Aside0 (Below w.heap.size w W1))
  case atStart => exact ⟨0, 3, rfl, ⟨rfl⟩, ⟨rfl⟩, HS, ⟨heap_alloc_new _ _⟩, ⟨FU F0⟩⟩
  case round =>
    obtain ⟨n, c, rfl, HK, HN, HS1, HL1, HB1⟩ := hrel; cases c with
    | zero =>
      have hn : decide ((n : Int) < 3) = false := decide_eq_false (by have := HN.out; omega); have H := HS1.out; simp only [spC, Option.some.injEq, Prod.mk.injEq] at H; obtain ⟨rfl, rfl, rfl⟩ := H
      go_wp2
      refine bodyPost_ret (results_list (rs := [.tmp 2, .tmp 3, .tmp 4]) rfl (by simp) (.tmp (.tmp (.tmp .nil)))) rfl ?_
      exact ⟨rfl, HB1.out⟩
    | succ c =>
      have hn : decide ((n : Int) < 3) = true := decide_eq_true (by have := HN.out; omega); have bn0 : (0 ≤ (n : Int)) = True := eq_true (by omega); have bn3 : ((n : Int) < 3) = True := eq_true (by have := HN.out; omega); obtain ⟨i, j, i0, i2, j0, j2, k0, k1, H⟩ := spC_at HS1.out (by have := HN.out; omega) HL1.out
      rw [show 2 - c = n by have := HN.out; omega] at k0 k1
      have HG := Aside0.mk H; clear H; obtain ⟨ad, ea, hxi⟩ := Kd.at_int HR0.out i i0 (by have := H3.out; omega); obtain ⟨ad', ea', hxj⟩ := Kd.at_int HR0.out j j0 (by have := H3.out; omega); obtain rfl : ad = ad' := (by rw [ea] at ea'; injection ea'); subst ea
      go_upto_region 4 with (fail)
      have FN := FS HB1 (Below.alloc (Below.refl _ _) (Nat.le_refl _) (Obj.cells #[Value.int IntKind.i64 i, Value.int IntKind.i64 j] 73)); have BP := Aside0.mk (heap_alloc_new wr (Obj.cells #[Value.int IntKind.i64 i, Value.int IntKind.i64 j] 73)); have HL2 := bB HL1 (Below.alloc (Below.refl _ _) (Nat.le_refl _) (Obj.cells #[Value.int IntKind.i64 i, Value.int IntKind.i64 j] 73)); replace hxi := (FN.out.cell (World.block_lt_of_cell? w _ hxi)).trans hxi; replace hxj := (FN.out.cell (World.block_lt_of_cell? w _ hxj)).trans hxj; clear k0 k1; obtain ⟨gp, hgp⟩ : ∃ g, wr.heap.size = g := ⟨_, rfl⟩; rw [hgp] at BP ⊢; generalize (wr.alloc (Obj.cells #[Value.int IntKind.i64 i, Value.int IntKind.i64 j] 73)) = W2 at hxi hxj BP HL2 FN ⊢; have k0 : W2.cell? ⟨gp, 0, none⟩ = some (.int .i64 i) := (blk_cell BP.out 0).trans rfl; have k1 : W2.cell? ⟨gp, 1, none⟩ = some (.int .i64 j) := (blk_cell BP.out 1).trans rfl; clear hgp ea'; have q0 : (0 ≤ i) = True := eq_true i0; have q1 : (0 ≤ j) = True := eq_true j0; have q2 : (i < (l0.length : Int)) = True := eq_true (by have := H3.out; omega); have q3 : (j < (l0.length : Int)) = True := eq_true (by have := H3.out; omega); clear i0 i2 j0 j2; obtain ⟨d, AD, H1⟩ := bnd HG.out
      by_cases cd : d > 1
      · rw [if_pos cd] at H1; have cdb : decide (1 < d) = true := decide_eq_true cd; clear cd HG
        obtain ⟨ps, AP, H2⟩ := bnd H1; clear H1; obtain ⟨hpl, H⟩ := ifN H2; clear H2; have HP := Aside0.mk hpl; have hpn : (0 < ps.length) = True := eq_true (by omega); clear hpl; simp only [Option.some.injEq, Prod.mk.injEq] at H; obtain ⟨rfl, rfl, rfl⟩ := H
        go_still_tail 10, (by kernel_rfl)
        go_upto_region 6 with (go_at_call 25; refine (impl_gcd.calls k _ _ [rd l0 i, rd l0 j] d _ (pair_C ?ga ?gb) (by simp) AD.out).mono ?_; (case ga => first | (go_simp; done) | rfl); (case gb => first | (go_simp; done) | rfl); rintro e w4 ⟨rfl, hb⟩; have FC := Aside0.mk (below_drew1 ((Below.refl W2.heap.size W2).alloc (Nat.le_refl _) (Obj.cells #[Value.int IntKind.i64 (rd l0 i), Value.int IntKind.i64 (rd l0 j)] 3))); replace FC := FS FC hb; replace BP := bB BP FC.out; replace HL2 := bB HL2 FC.out; replace FN := FS FN FC.out; clear hb FC k0 k1 hxi hxj)
        replace BP := Aside0.mk (blk_below BP.out (below_drew1 (Below.refl _ _))); replace FN := Aside0.mk (below_drew1 FN.out)
        refine start_ (n := 11) (S := fun w' => w'.cell? ⟨gp, 0, none⟩ = some (.int .i64 i) ∧ w'.cell? ⟨gp, 1, none⟩ = some (.int .i64 j)) (ds := []) #[false, false, false, false, false, false, false, false, false, false, false] (by kernel_rfl) rfl rfl ⟨((blk_cell BP.out 0).trans rfl), ((blk_cell BP.out 1).trans rfl)⟩ (fun hHeld => ?_)
        generalize w4.drew = w6 at BP FN hHeld ⊢
        refine pure_ (i := 0) (N := some 31) (v := ?_) (a' := ?_) #[true, false, false, false, false, false, false, false, false, false, false] rfl rfl (by kernel_rfl) (fun _ _ _ h => h) (Or.inl ⟨by rfl, ?_⟩) ?_ ?_; rotate_left; (intro w'; go_simp; with_reducible rfl); rotate_left; (simp only [Act.put, List.setIfInBounds_toArray, List.set_cons_zero, List.set_cons_succ, i64_w, i32_w]; rfl)
        refine pure_ (i := 2) (N := some 33) (v := ?_) (a' := ?_) #[true, false, true, false, false, false, false, false, false, false, false] rfl rfl (by kernel_rfl) (fun _ _ _ h => h) (Or.inl ⟨by rfl, ?_⟩) ?_ ?_; rotate_left; (intro w'; go_simp; with_reducible rfl); rotate_left; (simp only [Act.put, List.setIfInBounds_toArray, List.set_cons_zero, List.set_cons_succ, i64_w, i32_w]; rfl)
        refine pure_ (i := 4) (N := some 35) (v := ?_) (a' := ?_) #[true, false, true, false, true, false, false, false, false, false, false] rfl rfl (by kernel_rfl) (fun _ _ _ h => h) (Or.inl ⟨by rfl, ?_⟩) ?_ ?_; rotate_left; (intro w'; go_simp; with_reducible rfl); rotate_left; (simp only [Act.put, List.setIfInBounds_toArray, List.set_cons_zero, List.set_cons_succ, i64_w, i32_w]; rfl)
        refine take_ (i := 1) (N := some 32) (v := ?_) (a' := ?_) #[true, true, true, false, true, false, false, false, false, false, false] rfl rfl (by kernel_rfl) (fun _ _ _ h => h) (Or.inl ⟨by rfl, ?_⟩) hHeld ?_ ?_; rotate_left; (rintro w' ⟨s0, s1⟩; go_simp; with_reducible rfl); rotate_left; (simp only [Act.put, List.setIfInBounds_toArray, List.set_cons_zero, List.set_cons_succ, i64_w, i32_w]; rfl)
        refine take_ (i := 3) (N := some 34) (v := ?_) (a' := ?_) #[true, true, true, true, true, false, false, false, false, false, false] rfl rfl (by kernel_rfl) (fun _ _ _ h => h) (Or.inl ⟨by rfl, ?_⟩) hHeld ?_ ?_; rotate_left; (rintro w' ⟨s0, s1⟩; go_simp; with_reducible rfl); rotate_left; (simp only [Act.put, List.setIfInBounds_toArray, List.set_cons_zero, List.set_cons_succ, i64_w, i32_w]; rfl)
        refine one_ (i := 5) (N := some 36) #[true, true, true, true, true, true, false, false, false, false, false] rfl rfl (by kernel_rfl) (by decide) (fun K hK => ?_)
        refine goes_ Try.func64 (by kernel_rfl) rfl #[.int .i64 d] (by rfl) rfl rfl (by simp only [List.map_toArray, List.map_cons, List.map_nil]; rfl) ?_
        with_reducible refine (impl_primesOf.calls k d ps _ AP.out).mono ?_
        rintro e w5 ⟨v36, rfl, hR, hb⟩
        refine ⟨_, rfl, ?_⟩
        replace BP := bB BP hb; replace FN := FS FN hb; clear hb; obtain ⟨g7, c7, rfl, _, _, _⟩ := Kd.R_form hR (by have := HP.out; omega); obtain ⟨x7, f7⟩ := Kd.R_celln 0 hR 0 (by decide) HP.out; have x7 : w5.cell? ⟨g7, 0, none⟩ = some (.int .i64 (rd ps 0)) := x7; clear f7 hR
        refine hK.out _ _ ⟨((blk_cell BP.out 0).trans rfl), ((blk_cell BP.out 1).trans rfl)⟩ (fun hHeld => ?_)
        clear hK K
        refine norm_ (a' := ?_) ?_ ?_; rotate_left; (show Act.put _ (some 36) _ = _; simp only [Act.put, List.setIfInBounds_toArray, List.set_cons_zero, List.set_cons_succ, i64_w, i32_w]; rfl)
        refine pure_ (i := 6) (N := some 37) (v := ?_) (a' := ?_) #[true, true, true, true, true, true, true, false, false, false, false] rfl rfl (by kernel_rfl) (fun _ _ _ h => h) (Or.inl ⟨by rfl, ?_⟩) ?_ ?_; rotate_left; (intro w'; go_simp; with_reducible rfl); rotate_left; (simp only [Act.put, List.setIfInBounds_toArray, List.set_cons_zero, List.set_cons_succ, i64_w, i32_w]; rfl)
        refine pure_ (i := 8) (N := some 2) (v := ?_) (a' := ?_) #[true, true, true, true, true, true, true, false, true, false, false] rfl rfl (by kernel_rfl) (fun _ _ _ h => h) (Or.inl ⟨by rfl, ?_⟩) ?_ ?_; rotate_left; (intro w'; go_simp; with_reducible rfl); rotate_left; (simp only [Act.put, List.setIfInBounds_toArray, List.set_cons_zero, List.set_cons_succ, i64_w, i32_w]; rfl)
        refine pure_ (i := 9) (N := some 3) (v := ?_) (a' := ?_) #[true, true, true, true, true, true, true, false, true, true, false] rfl rfl (by kernel_rfl) (fun _ _ _ h => h) (Or.inl ⟨by rfl, ?_⟩) ?_ ?_; rotate_left; (intro w'; go_simp; with_reducible rfl); rotate_left; (simp only [Act.put, List.setIfInBounds_toArray, List.set_cons_zero, List.set_cons_succ, i64_w, i32_w]; rfl)
        refine one_ (i := 7) (N := some 38) #[true, true, true, true, true, true, true, true, true, true, false] rfl rfl (by kernel_rfl) (by decide) (fun K hK => ?_)
        refine value_ (w1 := ?_) (v := ?_) (by rfl) rfl ?_ ?_
        rotate_left 2
        · go_simp
          constructor
          · rfl
          rfl
        refine hK.out _ _ ⟨((blk_cell BP.out 0).trans rfl), ((blk_cell BP.out 1).trans rfl)⟩ (fun hHeld => ?_)
        clear hK K
        refine norm_ (a' := ?_) ?_ ?_; rotate_left; (show Act.put _ (some 38) _ = _; simp only [Act.put, List.setIfInBounds_toArray, List.set_cons_zero, List.set_cons_succ, i64_w, i32_w]; rfl)
        refine pure_ (i := 10) (N := some 4) (v := ?_) (a' := ?_) #[true, true, true, true, true, true, true, true, true, true, true] rfl rfl (by kernel_rfl) (fun _ _ _ h => h) (Or.inl ⟨by rfl, ?_⟩) ?_ ?_; rotate_left; (intro w'; go_simp; with_reducible rfl); rotate_left; (simp only [Act.put, List.setIfInBounds_toArray, List.set_cons_zero, List.set_cons_succ, i64_w, i32_w]; rfl)
        refine done_ (by kernel_rfl) ?_
        go_wp2
        refine bodyPost_ret (results_list (rs := [.tmp 2, .tmp 3, .tmp 4]) rfl (by simp) (.tmp (.tmp (.tmp .nil)))) rfl ?_
        exact ⟨rfl, FN.out⟩
      rw [if_neg cd] at H1; have HC := Aside0.mk H1; have cdb : decide (1 < d) = false := decide_eq_false cd; clear H1 cd HG
      go_still_tail 10, (by kernel_rfl)
      go_wp2_with (go_at_call 25; refine (impl_gcd.calls k _ _ [rd l0 i, rd l0 j] d _ (pair_C ?ga ?gb) (by simp) AD.out).mono ?_; (case ga => first | (go_simp; done) | rfl); (case gb => first | (go_simp; done) | rfl); rintro e w4 ⟨rfl, hb⟩; have FC := Aside0.mk (below_drew1 ((Below.refl W2.heap.size W2).alloc (Nat.le_refl _) (Obj.cells #[Value.int IntKind.i64 (rd l0 i), Value.int IntKind.i64 (rd l0 j)] 3))); replace FC := FS FC hb; replace BP := bB BP FC.out; replace HL2 := bB HL2 FC.out; replace FN := FS FN FC.out; clear hb FC k0 k1 hxi hxj; have bn : (n : Int) ≤ 3 := (by have := HN.out; omega))
      go_roundg (c + 1)
      case measure => have := HK.out; omega
      case rel => exact ⟨n + 1, c, by go_num, ⟨rfl⟩, ⟨by have := HN.out; omega⟩, HC, ⟨HL2.out⟩, ⟨FN.out⟩⟩

end Go.Proofs.Ytpjgcjkodmkemaa.PFnFindZero
