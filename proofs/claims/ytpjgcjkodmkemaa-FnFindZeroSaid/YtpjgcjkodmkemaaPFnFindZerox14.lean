import Derived.Test.YtpjgcjkodmkemaaPFnFindZerox0
import Derived.Test.YtpjgcjkodmkemaaPFnFindZerox11
import Derived.Test.YtpjgcjkodmkemaaPFnFindZerox13
namespace Go.Proofs.Ytpjgcjkodmkemaa.PFnFindZero
open Go.RowKit Go.Proofs.YtpjgcjkodmkemaaW.PrintWords Go.Proofs.YtpjgcjkodmkemaaW.PrintLast Go.Proofs.YtpjgcjkodmkemaaW.PrintMore
attribute [local go_sem] max2_int min2_int max_two min_two max_three min_three max_four min_four   -- for this text's walks alone
set_option linter.unusedVariables false
set_option linter.unusedSimpArgs false

/-! ### spec_l1Primes: function 81 -/
mutual
def spec_l1Primes.l0 : Nat → Int → List Int → Int → Option (List Int)
  | 0, _, _, _ => none
  | k + 1, x0, x3, x4 => if (wrap64 (x4 * x4)) ≤ x0 then (if x4 = 0 then (none) else (if (Int.tmod x0 x4) = 0 then (if x3.length < 17592186044416 then (spec_l1Primes.j1 k x0 (x3 ++ [x4]) x4) else (none)) else (spec_l1Primes.j1 k x0 x3 x4))) else (if x0 > 1 then (if x3.length < 17592186044416 then (some (x3 ++ [x0])) else (none)) else (some x3))
def spec_l1Primes.j1 : Nat → Int → List Int → Int → Option (List Int)
  | 0, _, _, _ => none
  | k + 1, x0, x3, x4 => spec_l1Primes.l1 k x0 x3 x4
def spec_l1Primes.l1 : Nat → Int → List Int → Int → Option (List Int)
  | 0, _, _, _ => none
  | k + 1, x0, x3, x4 => if x4 = 0 then (none) else (if (Int.tmod x0 x4) = 0 then (spec_l1Primes.l1 k (wrap64 (Int.tdiv x0 x4)) x3 x4) else (spec_l1Primes.l0 k x0 x3 (wrap64 (x4 + 1))))
end
def spec_l1Primes.f (k : Nat) (a0 : Int) : Option (List Int) := (spec_l1Size.f a0).bind fun t385 => (spec_l1Primes.l0 k t385 (([] : List Int)) 2)
theorem spec_l1Primes.mono_l : ∀ k, (∀ y0 y1 y2, LeO (spec_l1Primes.l0 k y0 y1 y2) (spec_l1Primes.l0 (k + 1) y0 y1 y2)) ∧ (∀ y0 y1 y2, LeO (spec_l1Primes.j1 k y0 y1 y2) (spec_l1Primes.j1 (k + 1) y0 y1 y2)) ∧ (∀ y0 y1 y2, LeO (spec_l1Primes.l1 k y0 y1 y2) (spec_l1Primes.l1 (k + 1) y0 y1 y2))
  | 0 => ⟨fun _ _ _ r h => by simp [spec_l1Primes.l0] at h, fun _ _ _ r h => by simp [spec_l1Primes.j1] at h, fun _ _ _ r h => by simp [spec_l1Primes.l1] at h⟩
  | k + 1 => by
    obtain ⟨ih0, ih1, ih2⟩ := spec_l1Primes.mono_l k
    refine ⟨?_, ?_, ?_⟩ <;> intros <;> (first | unfold spec_l1Primes.l0 | unfold spec_l1Primes.j1 | unfold spec_l1Primes.l1) <;> (with_reducible repeat' first | exact ih0 _ _ _ | exact ih1 _ _ _ | exact ih2 _ _ _ | exact LeO.refl _ | exact LeO.none _ | refine LeO.ite ?_ ?_ | refine LeO.bind ?_ (fun _ => ?_))
theorem spec_l1Primes.mono : ∀ a0 k, LeO (spec_l1Primes.f k a0) (spec_l1Primes.f (k + 1) a0) := by
  intro a0 k
  obtain ⟨ih0, ih1, ih2⟩ := spec_l1Primes.mono_l k
  unfold spec_l1Primes.f
  with_reducible repeat' first | exact ih0 _ _ _ | exact ih1 _ _ _ | exact ih2 _ _ _ | exact LeO.refl _ | exact LeO.none _ | refine LeO.ite ?_ ?_ | refine LeO.bind ?_ (fun _ => ?_)
set_option maxHeartbeats 8000000 in
set_option maxRecDepth 100000 in
theorem spec_l1Primes.calls (k : Nat) (a0 : Int) (r : List Int) (w : World) (h : spec_l1Primes.f k a0 = some r) :
    Calls Try.prog 81 #[.int .i64 a0] w fun e w' => ∃ v0_ : Value, e = .returned (v0_) ∧ Kd.R (Kd.int .i64) 3 w' w.heap.size (fun _ => True) v0_ r ∧ Below w.heap.size w w' := by
  have HB := Aside0.mk (Below.refl w.heap.size w); unfold spec_l1Primes.f at h; have H := h; clear h; obtain ⟨y382, hy382⟩ : ∃ y_ : List Int, y_ = (([] : List Int)) := ⟨_, rfl⟩; replace H : ((spec_l1Size.f a0).bind fun t385 => (spec_l1Primes.l0 k t385 y382 2)) = some r := rH hy382 H; have Ny382 := Aside0.mk hy382; clear hy382; obtain ⟨t385, A2, H⟩ := bnd H; have H' := Aside0.mk H; clear H; go_enter Try.func81, Try.ntmps81
  go_wp2_with (first | ((with_reducible refine gate_dst (N := 5) rfl ?_); refine Kd.R_lit (Kd.int .i64) _ 3 ?hg (N := 5) ?hd (xs := ([] : List Int)) (inner := []) (ok := fun _ => True) (okp := fun _ => True) ?hr ?hp (fun _ hk => hk) trivial (Below.refl _ _) (Nat.le_refl _) (by simp) ?_; (case hd => rfl); (case hg => rfl); (case hr => first | (go_simp; done) | (go_simp; rfl)); (case hp => exact (Reps.none _ _)); intro v383 w3 ho4 hb hg_ hnew_; clear hg_ hnew_; (first | rw [← Ny382.out] at ho4 | (simp only [Int.reduceToNat] at ho4; rw [← Ny382.out] at ho4)); have HO384 := Aside0.mk (Kd.R_lower ho4 (below_size BU)); replace HB := BS hb; clear hb ho4) | ((with_reducible refine gate_callee (f := 62) rfl ?_); refine goesK (some 7) Try.func62 #[.int .i64 a0] ?_; (with_reducible refine (spec_l1Size.calls a0 t385 _ A2.out).mono ?_); rintro e w5 ⟨rfl, hb⟩; refine ⟨_, rfl, ?_⟩; replace HO384 := Aside0.mk (Kd.R_below (U HO384.out) hb); replace HB := BS hb; (try clear hb)))
  go_loopg [0, 3, 4] k (fun kq v0 v3 v4 w' => ∃ (x0_1 : Int) (x3_1 : List Int) (x4_1 : Int), v0 = .int .i64 x0_1 ∧ v4 = .int .i64 x4_1 ∧ Aside0 (spec_l1Primes.l0 kq x0_1 x3_1 x4_1 = some r) ∧ Aside0 (kq ≤ k) ∧ Aside0 (Kd.R (Kd.int .i64) 3 w' w.heap.size (fun _ => True) v3 x3_1) ∧ Aside0 (Below w.heap.size w w'))
  case atStart => exact ⟨(t385), (y382), (2), sR, sR, H', ⟨Nat.le_refl _⟩, ⟨U HO384.out⟩, ⟨BU⟩⟩
  case round =>
    clear H'; obtain ⟨x0_1, x3_1, x4_1, rfl, rfl, HA, HK1, HO_3, HB⟩ := hrel; cases gk with
    | zero => exact absurd HA.out (by simp [spec_l1Primes.l0])
    | succ k1 =>
      have H := HA.out; clear HA; simp only [spec_l1Primes.l0] at H
      by_cases c6 : (wrap64 (x4_1 * x4_1)) ≤ x0_1
      · rw [if_pos c6] at H
        have c6b0 : decide ((wrap64 (x4_1 * x4_1)) ≤ x0_1) = true := decide_eq_true c6; clear c6; obtain ⟨c7, H⟩ := ifM H; have c7b0 : (x4_1 == 0) = false := beq_eq_false_iff_ne.mpr c7; have c7b1 : (x4_1 != 0) = true := bne_iff_ne.mpr c7; have HC8 := Aside0.mk H; clear H
        go_upto_if 18 with (fail)
        go_cut [3] (fun v3 wc => ∃ (kq : Nat) (x3_7 : List Int), Aside0 (spec_l1Primes.j1 kq x0_1 x3_7 x4_1 = some r) ∧ Aside0 (kq ≤ k1) ∧ Aside0 (Kd.R (Kd.int .i64) 3 wc w.heap.size (fun _ => True) v3 x3_7) ∧ Aside0 (Below w.heap.size w wc))
        case first =>
          have H := HC8.out; clear HC8
          by_cases c9 : (Int.tmod x0_1 x4_1) = 0
          · rw [if_pos c9] at H
            have c9b0 : ((Int.tmod x0_1 x4_1) == 0) = true := beq_iff_eq.mpr c9; have c9b1 : ((Int.tmod x0_1 x4_1) != 0) = false := bne_eq_false_iff_eq.mpr c9; clear c9
            (first | rw [c9b0] | (simp only [i64_w, i32_w]; rw [c9b0]) | skip)
            obtain ⟨c10, H⟩ := ifN H; have LMc10 := Aside0.mk c10; clear c10; obtain ⟨y389, hy389⟩ : ∃ y_ : List Int, y_ = (x3_1 ++ [x4_1]) := ⟨_, rfl⟩; replace H : (spec_l1Primes.j1 k1 x0_1 y389 x4_1) = some r := rH hy389 H; have Ny389 := Aside0.mk hy389; clear hy389; have H' := Aside0.mk H; clear H
            go_wp2_with (first | ((with_reducible refine gate_builtin (b := .append) (xs := #[.tmp 19, .tmp 21]) rfl ?_); at_builtin; refine Kd.R_append (Kd.int .i64) (w0 := w) w.heap.size rfl (.tmp 19) (.tmp 21) 23 3 (.int .i64 0) 8 rfl Try.underlying23 info3 rfl (by decide) (by omega) u3 x3_1 x4_1 [.int .i64 x4_1] (fun _ => True) (fun _ => False) rfl rfl ?aP (fun _ hk => hk.elim) ?aF ?aO ?aB ?aS ?aL ?_; (case aP => exact rfl); (case aB => exact BU); (case aF => exact (fun _ _ => trivial)); (case aO => exact (U HO_3.out)); (case aS => exact (below_size BU)); (case aL => have := LMc10.out; omega); intro v390 w11 ho hb hg hat; rw [← Ny389.out] at ho; have n0_ := Aside0.mk (hb); have n1_ := Aside0.mk (ho); try clear HB; clear HO_3; have HB := n0_; have HO391 := n1_; clear n0_ n1_; clear ho hb hg hat))
            go_meet
            case rel => exact ⟨_, (y389), H', ⟨by have := HK1.out; first | omega | exact Nat.le_refl _⟩, ⟨U HO391.out⟩, ⟨BU⟩⟩
          rw [if_neg c9] at H; have c9b0 : ((Int.tmod x0_1 x4_1) == 0) = false := beq_eq_false_iff_ne.mpr c9; have c9b1 : ((Int.tmod x0_1 x4_1) != 0) = true := bne_iff_ne.mpr c9
          (first | rw [c9b0] | (simp only [i64_w, i32_w]; rw [c9b0]) | skip)
          have H' := Aside0.mk H; clear H
          go_wp2
          go_meet
          case rel => exact ⟨_, (x3_1), H', ⟨by have := HK1.out; first | omega | exact Nat.le_refl _⟩, ⟨U HO_3.out⟩, ⟨BU⟩⟩
        case rest =>
          clear HC8; (try clear c6); (try clear c6b0); (try clear c7); (try clear c7b0); (try clear c7b1); obtain ⟨kq, x3_7, HA, HJ7, HO_3, HB⟩ := hcut; cases kq with
          | zero => exact absurd HA.out (by simp [spec_l1Primes.j1])
          | succ kj7 =>
            have H := HA.out; clear HA; simp only [spec_l1Primes.j1] at H; have H' := Aside0.mk H; clear H
            go_wp2
            go_loopg [0] kj7 (fun kq v0 w' => ∃ (x0_3 : Int), v0 = .int .i64 x0_3 ∧ Aside0 (spec_l1Primes.l1 kq x0_3 x3_7 x4_1 = some r) ∧ Aside0 (kq ≤ kj7) ∧ Aside0 (Kd.R (Kd.int .i64) 3 w' w.heap.size (fun _ => True) u3 x3_7) ∧ Aside0 (Below w.heap.size w w'))
            case atStart => exact ⟨(x0_1), sR, H', ⟨Nat.le_refl _⟩, ⟨U HO_3.out⟩, ⟨BU⟩⟩
            case round =>
              clear H'; (try clear c6); (try clear c6b0); (try clear c7); (try clear c7b0); (try clear c7b1); obtain ⟨x0_3, rfl, HA, HK3, HO_3, HB⟩ := hrel; cases gk with
              | zero => exact absurd HA.out (by simp [spec_l1Primes.l1])
              | succ k3 =>
                have H := HA.out; clear HA; simp only [spec_l1Primes.l1] at H; obtain ⟨c12, H⟩ := ifM H; have c12b0 : (x4_1 == 0) = false := beq_eq_false_iff_ne.mpr c12; have c12b1 : (x4_1 != 0) = true := bne_iff_ne.mpr c12
                by_cases c13 : (Int.tmod x0_3 x4_1) = 0
                · rw [if_pos c13] at H
                  have c13b0 : ((Int.tmod x0_3 x4_1) == 0) = true := beq_iff_eq.mpr c13; have c13b1 : ((Int.tmod x0_3 x4_1) != 0) = false := bne_eq_false_iff_eq.mpr c13; clear c13; have H' := Aside0.mk H; clear H
                  go_wp2
                  go_roundg k3
                  case measure => have := HK1.out; have := HJ7.out; have := HK3.out; omega
                  case rel => exact ⟨(wrap64 (Int.tdiv x0_3 x4_1)), sR, H', ⟨by have := HK1.out; have := HJ7.out; have := HK3.out; omega⟩, ⟨U HO_3.out⟩, ⟨BU⟩⟩
                rw [if_neg c13] at H; have c13b0 : ((Int.tmod x0_3 x4_1) == 0) = false := beq_eq_false_iff_ne.mpr c13; have c13b1 : ((Int.tmod x0_3 x4_1) != 0) = true := bne_iff_ne.mpr c13; have H' := Aside0.mk H; clear H
                go_wp2
                go_roundg k3
                case measure => have := HK1.out; have := HJ7.out; have := HK3.out; omega
                case rel => exact ⟨(x0_3), (x3_7), (wrap64 (x4_1 + 1)), sR, sR, H', ⟨by have := HK1.out; have := HJ7.out; have := HK3.out; omega⟩, ⟨U HO_3.out⟩, ⟨BU⟩⟩
      rw [if_neg c6] at H; have c6b0 : decide ((wrap64 (x4_1 * x4_1)) ≤ x0_1) = false := decide_eq_false c6; clear c6
      by_cases c14 : x0_1 > 1
      · rw [if_pos c14] at H
        have c14b0 : decide (1 < x0_1) = true := decide_eq_true c14; clear c14; obtain ⟨c15, H⟩ := ifN H; have LMc15 := Aside0.mk c15; clear c15; obtain ⟨y386, hy386⟩ : ∃ y_ : List Int, y_ = (x3_1 ++ [x0_1]) := ⟨_, rfl⟩; replace H : (some y386) = some r := rH hy386 H; have Ny386 := Aside0.mk hy386; clear hy386; obtain rfl := Option.some.inj H
        go_wp2_with (first | ((with_reducible refine gate_builtin (b := .append) (xs := #[.tmp 32, .tmp 34]) rfl ?_); at_builtin; refine Kd.R_append (Kd.int .i64) (w0 := w) w.heap.size rfl (.tmp 32) (.tmp 34) 23 3 (.int .i64 0) 8 rfl Try.underlying23 info3 rfl (by decide) (by omega) u3 x3_1 x0_1 [.int .i64 x0_1] (fun _ => True) (fun _ => False) rfl rfl ?aP (fun _ hk => hk.elim) ?aF ?aO ?aB ?aS ?aL ?_; (case aP => exact rfl); (case aB => exact BU); (case aF => exact (fun _ _ => trivial)); (case aO => exact (U HO_3.out)); (case aS => exact (below_size BU)); (case aL => have := LMc15.out; omega); intro v387 w16 ho hb hg hat; rw [← Ny386.out] at ho; have n0_ := Aside0.mk (hb); have n1_ := Aside0.mk (ho); try clear HB; clear HO_3; have HB := n0_; have HO388 := n1_; clear n0_ n1_; clear ho hb hg hat))
        go_ret
        exact ⟨_, eR, U HO388.out, BU⟩
      rw [if_neg c14] at H; have c14b0 : decide (1 < x0_1) = false := decide_eq_false c14; clear c14; obtain rfl := Option.some.inj H
      go_wp2
      go_ret
      exact ⟨_, eR, U HO_3.out, BU⟩

/-! ### spec_l5Two: function 76 -/
def spec_l5Two.l0 : Nat → List Int → Int → Option (Int × Int)
  | 0, _, _ => none
  | k + 1, x0, x4 => if x4 ≥ 0 then (if 0 ≤ (Int.tmod (wrap64 (x4 + 1)) 3) then (if (Int.tmod (wrap64 (x4 + 1)) 3) < (x0.length : Int) then (if 0 ≤ (Int.tmod (wrap64 (x4 + 2)) 3) then (if (Int.tmod (wrap64 (x4 + 2)) 3) < (x0.length : Int) then ((spec_l1Gcd.f k (rd x0 (Int.tmod (wrap64 (x4 + 1)) 3)) (rd x0 (Int.tmod (wrap64 (x4 + 2)) 3))).bind fun t394 => (if t394 > 1 then ((spec_l1Primes.f k t394).bind fun t395 => (if 0 < (t395.length : Int) then (some (rd t395 0, x4)) else (none))) else (spec_l5Two.l0 k x0 (wrap64 (x4 - 1))))) else (none)) else (none)) else (none)) else (none)) else (some (1, 0))
def spec_l5Two.f (k : Nat) (l0 : List Int) : Option (Int × Int) := spec_l5Two.l0 k l0 2
theorem spec_l5Two.mono_l : ∀ k, (∀ y0 y1, LeO (spec_l5Two.l0 k y0 y1) (spec_l5Two.l0 (k + 1) y0 y1))
  | 0 => fun _ _ r h => by simp [spec_l5Two.l0] at h
  | k + 1 => by
    have ih0 := spec_l5Two.mono_l k
    · intro y0 y1
      unfold spec_l5Two.l0
      with_reducible repeat' first | exact ih0 _ _ | exact spec_l1Gcd.mono _ _ _ | exact spec_l1Primes.mono _ _ | exact LeO.refl _ | exact LeO.none _ | refine LeO.ite ?_ ?_ | refine LeO.bind ?_ (fun _ => ?_)
theorem spec_l5Two.mono : ∀ a0 k, LeO (spec_l5Two.f k a0) (spec_l5Two.f (k + 1) a0) := by
  intro a0 k
  have ih0 := spec_l5Two.mono_l k
  unfold spec_l5Two.f
  with_reducible repeat' first | exact ih0 _ _ | exact spec_l1Gcd.mono _ _ _ | exact spec_l1Primes.mono _ _ | exact LeO.refl _ | exact LeO.none _ | refine LeO.ite ?_ ?_ | refine LeO.bind ?_ (fun _ => ?_)
def spec_l5Two.T4 : Bool × List (List Nat × List Nat) := (true, [([], []), ([], []), ([1], [1]), ([2], [2]), ([0, 3], [0, 3]), ([4], [4]), ([], []), ([], []), ([7], [7]), ([8], [8]), ([6, 9], [6, 9]), ([10], [10]), ([5, 11], [5, 11]), ([12, 12, 0, 1, 2, 3, 4, 5, 6, 7, 8, 9, 10, 11, 12], [12])])
def spec_l5Two.B4 : List Nat := [0, 0, 2, 6, 15, 31, 0, 0, 128, 384, 960, 1984, 4095, 8191]
theorem spec_l5Two.tab4 : rtab .any (opsOf Try.f76 4) = spec_l5Two.T4 := by kernel_rfl
theorem spec_l5Two.bits4 : waitsOk spec_l5Two.T4.2 spec_l5Two.B4 = true := by kernel_rfl
set_option maxHeartbeats 8000000 in
set_option maxRecDepth 100000 in
theorem spec_l5Two.calls (k : Nat) (A0 : Option Addr) (c0 : Nat) (l0 : List Int) (r1 : Int) (r2 : Int) (w : World) (hr0 : Kd.C (Kd.int .i64) w A0 l0.length l0) (hc0 : l0.length ≤ c0) (h : spec_l5Two.f k l0 = some (r1, r2)) :
    Calls Try.prog 76 #[.slice A0 l0.length c0] w fun e w' => e = .returned (.tuple #[.int .i64 r1, .int .i64 r2]) ∧ Below w.heap.size w w' := by
  have HR0 := Aside0.mk hr0; have HC0 := Aside0.mk hc0; clear hr0 hc0; have HB := Aside0.mk (Below.refl w.heap.size w); unfold spec_l5Two.f at h; have H := h; clear h; have H' := Aside0.mk H; clear H; go_enter Try.func76, Try.ntmps76
  go_wp2
  go_loopg [4] k (fun kq v4 w' => ∃ (x4_1 : Int), v4 = .int .i64 x4_1 ∧ Aside0 (spec_l5Two.l0 kq l0 x4_1 = some (r1, r2)) ∧ Aside0 (kq ≤ k) ∧ Aside0 (Below w.heap.size w w'))
  case atStart => exact ⟨(2), sR, H', ⟨Nat.le_refl _⟩, ⟨BU⟩⟩
  case round =>
    clear H'; obtain ⟨x4_1, rfl, HA, HK1, HB⟩ := hrel; cases gk with
    | zero => exact absurd HA.out (by simp [spec_l5Two.l0])
    | succ k1 =>
      have H := HA.out; clear HA; simp only [spec_l5Two.l0] at H
      by_cases c2 : x4_1 ≥ 0
      · rw [if_pos c2] at H
        have c2b0 : decide (0 ≤ x4_1) = true := decide_eq_true c2; clear c2; obtain ⟨ji3, hji3⟩ : ∃ j_ : Int, (Int.tmod (wrap64 (x4_1 + 1)) 3) = j_ := ⟨_, rfl⟩
        replace H : (if 0 ≤ (ji3) then (if (ji3) < (l0.length : Int) then (if 0 ≤ (Int.tmod (wrap64 (x4_1 + 2)) 3) then (if (Int.tmod (wrap64 (x4_1 + 2)) 3) < (l0.length : Int) then ((spec_l1Gcd.f k1 (rd l0 (ji3)) (rd l0 (Int.tmod (wrap64 (x4_1 + 2)) 3))).bind fun t394 => (if t394 > 1 then ((spec_l1Primes.f k1 t394).bind fun t395 => (if 0 < (t395.length : Int) then (some (rd t395 0, x4_1)) else (none))) else (spec_l5Two.l0 k1 l0 (wrap64 (x4_1 - 1))))) else (none)) else (none)) else (none)) else (none)) = some (r1, r2) := by first | (rw [hji3] at H; exact H) | (simp only [hji3] at H ⊢; exact H)
        obtain ⟨c4, H⟩ := ifN H; have c4b0 : decide (0 ≤ (ji3)) = true := decide_eq_true c4; clear c4; obtain ⟨c5, H⟩ := ifN H; have c5b0 : decide ((ji3) < (l0.length : Int)) = true := decide_eq_true c5; clear c5; obtain ⟨ji6, hji6⟩ : ∃ j_ : Int, (Int.tmod (wrap64 (x4_1 + 2)) 3) = j_ := ⟨_, rfl⟩
        replace H : (if 0 ≤ (ji6) then (if (ji6) < (l0.length : Int) then ((spec_l1Gcd.f k1 (rd l0 (ji3)) (rd l0 (ji6))).bind fun t394 => (if t394 > 1 then ((spec_l1Primes.f k1 t394).bind fun t395 => (if 0 < (t395.length : Int) then (some (rd t395 0, x4_1)) else (none))) else (spec_l5Two.l0 k1 l0 (wrap64 (x4_1 - 1))))) else (none)) else (none)) = some (r1, r2) := by first | (rw [hji6] at H; exact H) | (simp only [hji6] at H ⊢; exact H)
        obtain ⟨c7, H⟩ := ifN H; have c7b0 : decide (0 ≤ (ji6)) = true := decide_eq_true c7; clear c7; obtain ⟨c8, H⟩ := ifN H; have c8b0 : decide ((ji6) < (l0.length : Int)) = true := decide_eq_true c8; clear c8; obtain ⟨t394, A9, H⟩ := bnd H
        by_cases c10 : t394 > 1
        · rw [if_pos c10] at H
          have c10b0 : decide (1 < t394) = true := decide_eq_true c10; clear c10; obtain ⟨t395, A11, H⟩ := bnd H; obtain ⟨c12, H⟩ := ifN H; have c12b0 : decide (0 < (t395.length : Int)) = true := decide_eq_true c12; have c12b1 : decide (0 < t395.length) = true := decide_eq_true (by omega); clear c12; simp only [Option.some.injEq, Prod.mk.injEq] at H; obtain ⟨rfl, rfl⟩ := H
          try go_wp2
          replace HB := Aside0.mk (below_drew1 HB.out); have p392 : 0 ≤ ((ji3) : Int) := oD; have q392 : (ji3) < (l0.length : Int) := oD; obtain ⟨ad392, e392, hx392_0⟩ := Kd.at_int HR0.out (ji3) p392 q392; have hw392_0 := hx392_0; cases e392; replace hx392_0 := (HB.out.cell (World.block_lt_of_cell? w _ hx392_0)).trans hx392_0; replace p392 := eq_true p392; replace q392 := eq_true q392; have p393 : 0 ≤ ((ji6) : Int) := oD; have q393 : (ji6) < (l0.length : Int) := oD; obtain ⟨ad393, e393, hx393_0⟩ := Kd.at_int HR0.out (ji6) p393 q393; have hw393_0 := hx393_0; obtain rfl : ad392 = ad393 := (by injection e393); replace hx393_0 := (HB.out.cell (World.block_lt_of_cell? w _ hx393_0)).trans hx393_0; replace p393 := eq_true p393; replace q393 := eq_true q393
          refine start_ (n := 14) (S := fun w' => w'.cell? (ad392.add ((ji3)).toNat) = some (.int .i64 (rd l0 (ji3))) ∧ w'.cell? (ad392.add ((ji6)).toNat) = some (.int .i64 (rd l0 (ji6)))) (ds := []) #[false, false, false, false, false, false, false, false, false, false, false, false, false, false] (by kernel_rfl) rfl rfl ⟨((HB.out.cell (World.block_lt_of_cell? w _ hw392_0)).trans hw392_0), ((HB.out.cell (World.block_lt_of_cell? w _ hw393_0)).trans hw393_0)⟩ (fun hHeld => ?_); refine with_tabW spec_l5Two.tab4 spec_l5Two.bits4 (fun HT_ HW_ => ?_)
          generalize wr.drew = w13 at HB hx392_0 hx393_0 hHeld ⊢
          refine pure_ (i := 0) (N := some 10) (v := ?_) (a' := ?_) #[true, false, false, false, false, false, false, false, false, false, false, false, false, false] rfl rfl (any_of HT_.out (by kernel_rfl)) (fun _ _ _ h => h) (Or.inl ⟨by rfl, ?_⟩) ?_ ?_; rotate_left; (intro w'; go_simp; with_reducible rfl); rotate_left; (simp only [Act.put, List.setIfInBounds_toArray, List.set_cons_zero, List.set_cons_succ, i64_w, i32_w]; rfl)
          refine pure_ (i := 1) (N := some 11) (v := ?_) (a' := ?_) #[true, true, false, false, false, false, false, false, false, false, false, false, false, false] rfl rfl (any_of HT_.out (by kernel_rfl)) (fun _ _ _ h => h) (Or.inl ⟨by rfl, ?_⟩) ?_ ?_; rotate_left; (intro w'; go_simp; with_reducible rfl); rotate_left; (simp only [Act.put, List.setIfInBounds_toArray, List.set_cons_zero, List.set_cons_succ, i64_w, i32_w]; rfl)
          refine pure_ (i := 2) (N := some 12) (v := ?_) (a' := ?_) #[true, true, true, false, false, false, false, false, false, false, false, false, false, false] rfl rfl (any_of HT_.out (by kernel_rfl)) (fun _ _ _ h => h) (Or.inl ⟨by rfl, ?_⟩) ?_ ?_; rotate_left; (intro w'; go_simp; with_reducible rfl); rotate_left; (simp only [Act.put, List.setIfInBounds_toArray, List.set_cons_zero, List.set_cons_succ, i64_w, i32_w]; rfl)
          refine pure_ (i := 3) (N := some 13) (v := ?_) (a' := ?_) #[true, true, true, true, false, false, false, false, false, false, false, false, false, false] rfl rfl (any_of HT_.out (by kernel_rfl)) (fun _ _ _ h => h) (Or.inl ⟨by rfl, ?_⟩) ?_ ?_; rotate_left; (intro w'; go_simp; with_reducible rfl); rotate_left; (simp only [Act.put, List.setIfInBounds_toArray, List.set_cons_zero, List.set_cons_succ, i64_w, i32_w]; rfl)
          refine pure_ (i := 4) (N := some 14) (v := ?_) (a' := ?_) #[true, true, true, true, true, false, false, false, false, false, false, false, false, false] rfl rfl (any_of HT_.out (by kernel_rfl)) (fun _ _ _ h => h) (Or.inl ⟨by rfl, ?_⟩) ?_ ?_; rotate_left; (intro w'; go_simp; with_reducible rfl); rotate_left; (simp only [Act.put, List.setIfInBounds_toArray, List.set_cons_zero, List.set_cons_succ, i64_w, i32_w]; rfl)
          refine pure_ (i := 6) (N := some 16) (v := ?_) (a' := ?_) #[true, true, true, true, true, false, true, false, false, false, false, false, false, false] rfl rfl (any_of HT_.out (by kernel_rfl)) (fun _ _ _ h => h) (Or.inl ⟨by rfl, ?_⟩) ?_ ?_; rotate_left; (intro w'; go_simp; with_reducible rfl); rotate_left; (simp only [Act.put, List.setIfInBounds_toArray, List.set_cons_zero, List.set_cons_succ, i64_w, i32_w]; rfl)
          refine pure_ (i := 7) (N := some 17) (v := ?_) (a' := ?_) #[true, true, true, true, true, false, true, true, false, false, false, false, false, false] rfl rfl (any_of HT_.out (by kernel_rfl)) (fun _ _ _ h => h) (Or.inl ⟨by rfl, ?_⟩) ?_ ?_; rotate_left; (intro w'; go_simp; with_reducible rfl); rotate_left; (simp only [Act.put, List.setIfInBounds_toArray, List.set_cons_zero, List.set_cons_succ, i64_w, i32_w]; rfl)
          refine pure_ (i := 8) (N := some 18) (v := ?_) (a' := ?_) #[true, true, true, true, true, false, true, true, true, false, false, false, false, false] rfl rfl (any_of HT_.out (by kernel_rfl)) (fun _ _ _ h => h) (Or.inl ⟨by rfl, ?_⟩) ?_ ?_; rotate_left; (intro w'; go_simp; with_reducible rfl); rotate_left; (simp only [Act.put, List.setIfInBounds_toArray, List.set_cons_zero, List.set_cons_succ, i64_w, i32_w]; rfl)
          refine pure_ (i := 9) (N := some 19) (v := ?_) (a' := ?_) #[true, true, true, true, true, false, true, true, true, true, false, false, false, false] rfl rfl (any_of HT_.out (by kernel_rfl)) (fun _ _ _ h => h) (Or.inl ⟨by rfl, ?_⟩) ?_ ?_; rotate_left; (intro w'; go_simp; with_reducible rfl); rotate_left; (simp only [Act.put, List.setIfInBounds_toArray, List.set_cons_zero, List.set_cons_succ, i64_w, i32_w]; rfl)
          refine pure_ (i := 10) (N := some 20) (v := ?_) (a' := ?_) #[true, true, true, true, true, false, true, true, true, true, true, false, false, false] rfl rfl (any_of HT_.out (by kernel_rfl)) (fun _ _ _ h => h) (Or.inl ⟨by rfl, ?_⟩) ?_ ?_; rotate_left; (intro w'; go_simp; with_reducible rfl); rotate_left; (simp only [Act.put, List.setIfInBounds_toArray, List.set_cons_zero, List.set_cons_succ, i64_w, i32_w]; rfl)
          refine take_ (i := 5) (N := some 15) (v := ?_) (a' := ?_) #[true, true, true, true, true, true, true, true, true, true, true, false, false, false] rfl rfl (take_ofW HT_.out HW_.out (by kernel_rfl)) (fun _ _ _ h => h) (Or.inl ⟨by rfl, ?_⟩) hHeld ?_ ?_; rotate_left; (rintro w' ⟨s0, s1⟩; go_simp; with_reducible rfl); rotate_left; (simp only [Act.put, List.setIfInBounds_toArray, List.set_cons_zero, List.set_cons_succ, i64_w, i32_w]; rfl)
          refine take_ (i := 11) (N := some 21) (v := ?_) (a' := ?_) #[true, true, true, true, true, true, true, true, true, true, true, true, false, false] rfl rfl (take_ofW HT_.out HW_.out (by kernel_rfl)) (fun _ _ _ h => h) (Or.inl ⟨by rfl, ?_⟩) hHeld ?_ ?_; rotate_left; (rintro w' ⟨s0, s1⟩; go_simp; with_reducible rfl); rotate_left; (simp only [Act.put, List.setIfInBounds_toArray, List.set_cons_zero, List.set_cons_succ, i64_w, i32_w]; rfl)
          refine one_ (i := 12) (N := some 22) #[true, true, true, true, true, true, true, true, true, true, true, true, true, false] rfl rfl (one_of HT_.out (by kernel_rfl)) (by decide) (fun K hK => ?_)
          refine goes_ Try.func68 (by kernel_rfl) rfl #[.int .i64 (rd l0 (ji3)), .int .i64 (rd l0 (ji6))] (by rfl) rfl rfl (by (try simp only [List.map_toArray, List.map_cons, List.map_nil]); first | done | (simp only [hji3, hji6]; rfl) | rfl | (simp only [List.length_drop, List.length_take]; rfl)) ?_
          with_reducible refine (spec_l1Gcd.calls k1 (rd l0 (ji3)) (rd l0 (ji6)) t394 _ A9.out).mono ?_
          rintro e w14 ⟨rfl, hb⟩
          refine ⟨_, rfl, ?_⟩
          replace HB := BS hb; (try clear hb); (try clear hb2); (try clear hk); (try clear hi)
          refine hK.out _ _ ⟨((HB.out.cell (World.block_lt_of_cell? w _ hw392_0)).trans hw392_0), ((HB.out.cell (World.block_lt_of_cell? w _ hw393_0)).trans hw393_0)⟩ (fun hHeld => ?_)
          clear hK K
          refine norm_ (a' := ?_) ?_ ?_; rotate_left; (show Act.put _ (some 22) _ = _; simp only [Act.put, List.setIfInBounds_toArray, List.set_cons_zero, List.set_cons_succ, i64_w, i32_w]; rfl)
          refine pure_ (i := 13) (N := some 5) (v := ?_) (a' := ?_) #[true, true, true, true, true, true, true, true, true, true, true, true, true, true] rfl rfl (any_of HT_.out (by kernel_rfl)) (fun _ _ _ h => h) (Or.inl ⟨by rfl, ?_⟩) ?_ ?_; rotate_left; (intro w'; go_simp; with_reducible rfl); rotate_left; (simp only [Act.put, List.setIfInBounds_toArray, List.set_cons_zero, List.set_cons_succ, i64_w, i32_w]; rfl)
          refine done_ (done_of HT_.out (by kernel_rfl)) ?_
          try go_wp2_with (first | ((with_reducible refine gate_callee (f := 81) rfl ?_); refine goesK (some 26) Try.func81 #[.int .i64 t394] ?_; (with_reducible refine (spec_l1Primes.calls k1 t394 t395 _ A11.out).mono ?_); rintro e w15 ⟨v396, rfl, ho0, hb⟩; refine ⟨_, rfl, ?_⟩; have HO397 := Aside0.mk (Kd.R_lower ho0 (below_size BU)); replace HB := BS hb; (try clear hb); (try clear ho0); obtain ⟨Ao16, co16, eo16⟩ := Kd.R_slice HO397.out; subst eo16; have p398 : 0 ≤ (0 : Int) := (by omega); have q398 : 0 < (t395.length : Int) := oD; obtain ⟨ad398, e398, hx398_0⟩ := Kd.at_int (Kd.R_reads' HO397.out).2.2 0 p398 q398; cases e398; have qi398 : (0 < t395.length) = True := eq_true (by omega); (try rw [show ((0 : Int)).toNat = 0 from rfl] at hx398_0); (try rw [Addr.add_zero'] at hx398_0); replace p398 := eq_true p398; replace q398 := eq_true q398))
          go_ret2
          exact ⟨by first | rfl | (simp [errW_none, errW_some] <;> rfl) | (simp only [← hji3, ← hji6]; first | rfl | (simp [errW_none, errW_some] <;> rfl)) | (simp [*, errW_none, errW_some] <;> rfl), BU⟩
        rw [if_neg c10] at H; have c10b0 : decide (1 < t394) = false := decide_eq_false c10; clear c10; have H' := Aside0.mk H; clear H
        try go_wp2
        replace HB := Aside0.mk (below_drew1 HB.out); have p392 : 0 ≤ ((ji3) : Int) := oD; have q392 : (ji3) < (l0.length : Int) := oD; obtain ⟨ad392, e392, hx392_0⟩ := Kd.at_int HR0.out (ji3) p392 q392; have hw392_0 := hx392_0; cases e392; replace hx392_0 := (HB.out.cell (World.block_lt_of_cell? w _ hx392_0)).trans hx392_0; replace p392 := eq_true p392; replace q392 := eq_true q392; have p393 : 0 ≤ ((ji6) : Int) := oD; have q393 : (ji6) < (l0.length : Int) := oD; obtain ⟨ad393, e393, hx393_0⟩ := Kd.at_int HR0.out (ji6) p393 q393; have hw393_0 := hx393_0; obtain rfl : ad392 = ad393 := (by injection e393); replace hx393_0 := (HB.out.cell (World.block_lt_of_cell? w _ hx393_0)).trans hx393_0; replace p393 := eq_true p393; replace q393 := eq_true q393
        refine start_ (n := 14) (S := fun w' => w'.cell? (ad392.add ((ji3)).toNat) = some (.int .i64 (rd l0 (ji3))) ∧ w'.cell? (ad392.add ((ji6)).toNat) = some (.int .i64 (rd l0 (ji6)))) (ds := []) #[false, false, false, false, false, false, false, false, false, false, false, false, false, false] (by kernel_rfl) rfl rfl ⟨((HB.out.cell (World.block_lt_of_cell? w _ hw392_0)).trans hw392_0), ((HB.out.cell (World.block_lt_of_cell? w _ hw393_0)).trans hw393_0)⟩ (fun hHeld => ?_); refine with_tabW spec_l5Two.tab4 spec_l5Two.bits4 (fun HT_ HW_ => ?_)
        generalize wr.drew = w17 at HB hx392_0 hx393_0 hHeld ⊢
        refine pure_ (i := 0) (N := some 10) (v := ?_) (a' := ?_) #[true, false, false, false, false, false, false, false, false, false, false, false, false, false] rfl rfl (any_of HT_.out (by kernel_rfl)) (fun _ _ _ h => h) (Or.inl ⟨by rfl, ?_⟩) ?_ ?_; rotate_left; (intro w'; go_simp; with_reducible rfl); rotate_left; (simp only [Act.put, List.setIfInBounds_toArray, List.set_cons_zero, List.set_cons_succ, i64_w, i32_w]; rfl)
        refine pure_ (i := 1) (N := some 11) (v := ?_) (a' := ?_) #[true, true, false, false, false, false, false, false, false, false, false, false, false, false] rfl rfl (any_of HT_.out (by kernel_rfl)) (fun _ _ _ h => h) (Or.inl ⟨by rfl, ?_⟩) ?_ ?_; rotate_left; (intro w'; go_simp; with_reducible rfl); rotate_left; (simp only [Act.put, List.setIfInBounds_toArray, List.set_cons_zero, List.set_cons_succ, i64_w, i32_w]; rfl)
        refine pure_ (i := 2) (N := some 12) (v := ?_) (a' := ?_) #[true, true, true, false, false, false, false, false, false, false, false, false, false, false] rfl rfl (any_of HT_.out (by kernel_rfl)) (fun _ _ _ h => h) (Or.inl ⟨by rfl, ?_⟩) ?_ ?_; rotate_left; (intro w'; go_simp; with_reducible rfl); rotate_left; (simp only [Act.put, List.setIfInBounds_toArray, List.set_cons_zero, List.set_cons_succ, i64_w, i32_w]; rfl)
        refine pure_ (i := 3) (N := some 13) (v := ?_) (a' := ?_) #[true, true, true, true, false, false, false, false, false, false, false, false, false, false] rfl rfl (any_of HT_.out (by kernel_rfl)) (fun _ _ _ h => h) (Or.inl ⟨by rfl, ?_⟩) ?_ ?_; rotate_left; (intro w'; go_simp; with_reducible rfl); rotate_left; (simp only [Act.put, List.setIfInBounds_toArray, List.set_cons_zero, List.set_cons_succ, i64_w, i32_w]; rfl)
        refine pure_ (i := 4) (N := some 14) (v := ?_) (a' := ?_) #[true, true, true, true, true, false, false, false, false, false, false, false, false, false] rfl rfl (any_of HT_.out (by kernel_rfl)) (fun _ _ _ h => h) (Or.inl ⟨by rfl, ?_⟩) ?_ ?_; rotate_left; (intro w'; go_simp; with_reducible rfl); rotate_left; (simp only [Act.put, List.setIfInBounds_toArray, List.set_cons_zero, List.set_cons_succ, i64_w, i32_w]; rfl)
        refine pure_ (i := 6) (N := some 16) (v := ?_) (a' := ?_) #[true, true, true, true, true, false, true, false, false, false, false, false, false, false] rfl rfl (any_of HT_.out (by kernel_rfl)) (fun _ _ _ h => h) (Or.inl ⟨by rfl, ?_⟩) ?_ ?_; rotate_left; (intro w'; go_simp; with_reducible rfl); rotate_left; (simp only [Act.put, List.setIfInBounds_toArray, List.set_cons_zero, List.set_cons_succ, i64_w, i32_w]; rfl)
        refine pure_ (i := 7) (N := some 17) (v := ?_) (a' := ?_) #[true, true, true, true, true, false, true, true, false, false, false, false, false, false] rfl rfl (any_of HT_.out (by kernel_rfl)) (fun _ _ _ h => h) (Or.inl ⟨by rfl, ?_⟩) ?_ ?_; rotate_left; (intro w'; go_simp; with_reducible rfl); rotate_left; (simp only [Act.put, List.setIfInBounds_toArray, List.set_cons_zero, List.set_cons_succ, i64_w, i32_w]; rfl)
        refine pure_ (i := 8) (N := some 18) (v := ?_) (a' := ?_) #[true, true, true, true, true, false, true, true, true, false, false, false, false, false] rfl rfl (any_of HT_.out (by kernel_rfl)) (fun _ _ _ h => h) (Or.inl ⟨by rfl, ?_⟩) ?_ ?_; rotate_left; (intro w'; go_simp; with_reducible rfl); rotate_left; (simp only [Act.put, List.setIfInBounds_toArray, List.set_cons_zero, List.set_cons_succ, i64_w, i32_w]; rfl)
        refine pure_ (i := 9) (N := some 19) (v := ?_) (a' := ?_) #[true, true, true, true, true, false, true, true, true, true, false, false, false, false] rfl rfl (any_of HT_.out (by kernel_rfl)) (fun _ _ _ h => h) (Or.inl ⟨by rfl, ?_⟩) ?_ ?_; rotate_left; (intro w'; go_simp; with_reducible rfl); rotate_left; (simp only [Act.put, List.setIfInBounds_toArray, List.set_cons_zero, List.set_cons_succ, i64_w, i32_w]; rfl)
        refine pure_ (i := 10) (N := some 20) (v := ?_) (a' := ?_) #[true, true, true, true, true, false, true, true, true, true, true, false, false, false] rfl rfl (any_of HT_.out (by kernel_rfl)) (fun _ _ _ h => h) (Or.inl ⟨by rfl, ?_⟩) ?_ ?_; rotate_left; (intro w'; go_simp; with_reducible rfl); rotate_left; (simp only [Act.put, List.setIfInBounds_toArray, List.set_cons_zero, List.set_cons_succ, i64_w, i32_w]; rfl)
        refine take_ (i := 5) (N := some 15) (v := ?_) (a' := ?_) #[true, true, true, true, true, true, true, true, true, true, true, false, false, false] rfl rfl (take_ofW HT_.out HW_.out (by kernel_rfl)) (fun _ _ _ h => h) (Or.inl ⟨by rfl, ?_⟩) hHeld ?_ ?_; rotate_left; (rintro w' ⟨s0, s1⟩; go_simp; with_reducible rfl); rotate_left; (simp only [Act.put, List.setIfInBounds_toArray, List.set_cons_zero, List.set_cons_succ, i64_w, i32_w]; rfl)
        refine take_ (i := 11) (N := some 21) (v := ?_) (a' := ?_) #[true, true, true, true, true, true, true, true, true, true, true, true, false, false] rfl rfl (take_ofW HT_.out HW_.out (by kernel_rfl)) (fun _ _ _ h => h) (Or.inl ⟨by rfl, ?_⟩) hHeld ?_ ?_; rotate_left; (rintro w' ⟨s0, s1⟩; go_simp; with_reducible rfl); rotate_left; (simp only [Act.put, List.setIfInBounds_toArray, List.set_cons_zero, List.set_cons_succ, i64_w, i32_w]; rfl)
        refine one_ (i := 12) (N := some 22) #[true, true, true, true, true, true, true, true, true, true, true, true, true, false] rfl rfl (one_of HT_.out (by kernel_rfl)) (by decide) (fun K hK => ?_)
        refine goes_ Try.func68 (by kernel_rfl) rfl #[.int .i64 (rd l0 (ji3)), .int .i64 (rd l0 (ji6))] (by rfl) rfl rfl (by (try simp only [List.map_toArray, List.map_cons, List.map_nil]); first | done | (simp only [hji3, hji6]; rfl) | rfl | (simp only [List.length_drop, List.length_take]; rfl)) ?_
        with_reducible refine (spec_l1Gcd.calls k1 (rd l0 (ji3)) (rd l0 (ji6)) t394 _ A9.out).mono ?_
        rintro e w18 ⟨rfl, hb⟩
        refine ⟨_, rfl, ?_⟩
        replace HB := BS hb; (try clear hb); (try clear hb2); (try clear hk); (try clear hi)
        refine hK.out _ _ ⟨((HB.out.cell (World.block_lt_of_cell? w _ hw392_0)).trans hw392_0), ((HB.out.cell (World.block_lt_of_cell? w _ hw393_0)).trans hw393_0)⟩ (fun hHeld => ?_)
        clear hK K
        refine norm_ (a' := ?_) ?_ ?_; rotate_left; (show Act.put _ (some 22) _ = _; simp only [Act.put, List.setIfInBounds_toArray, List.set_cons_zero, List.set_cons_succ, i64_w, i32_w]; rfl)
        refine pure_ (i := 13) (N := some 5) (v := ?_) (a' := ?_) #[true, true, true, true, true, true, true, true, true, true, true, true, true, true] rfl rfl (any_of HT_.out (by kernel_rfl)) (fun _ _ _ h => h) (Or.inl ⟨by rfl, ?_⟩) ?_ ?_; rotate_left; (intro w'; go_simp; with_reducible rfl); rotate_left; (simp only [Act.put, List.setIfInBounds_toArray, List.set_cons_zero, List.set_cons_succ, i64_w, i32_w]; rfl)
        refine done_ (done_of HT_.out (by kernel_rfl)) ?_
        try go_wp2
        go_roundg k1
        case measure => have := HK1.out; omega
        case rel => exact ⟨(wrap64 (x4_1 - 1)), sR, H', ⟨by have := HK1.out; omega⟩, ⟨BU⟩⟩
      rw [if_neg c2] at H; have c2b0 : decide (0 ≤ x4_1) = false := decide_eq_false c2; clear c2; simp only [Option.some.injEq, Prod.mk.injEq] at H; obtain ⟨rfl, rfl⟩ := H
      go_wp2
      go_ret2
      exact ⟨eR, BU⟩

end Go.Proofs.Ytpjgcjkodmkemaa.PFnFindZero
