-- Written by a program of this session (wip/print2.py): the functions that the law reaches, plain, and the walks.
import Derived.Test.YtpjgcjkodmkemaaPFnManyx0
import Derived.Test.YtpjgcjkodmkemaaPFnManyx1
import Derived.Test.YtpjgcjkodmkemaaPFnManyx7
import Derived.Test.YtpjgcjkodmkemaaPFnManyx10
import Derived.Test.YtpjgcjkodmkemaaPFnManyx11
import Derived.Test.YtpjgcjkodmkemaaPFnManyx12
namespace Go.Proofs.Ytpjgcjkodmkemaa.PFnMany
open Go.RowKit Go.Proofs.YtpjgcjkodmkemaaW.PrintWords Go.Proofs.YtpjgcjkodmkemaaW.PrintLast Go.Proofs.YtpjgcjkodmkemaaW.PrintMore
attribute [local go_sem] max2_int min2_int max_two min_two max_three min_three max_four min_four   -- for this text's walks alone
set_option linter.unusedVariables false
set_option linter.unusedSimpArgs false

/-! ### impl_ZeroFind: function 15 -/
def impl_ZeroFind.l0 : Nat → List Int → List Int → Int → Int → Option (List Int × Bool)
  | 0, _, _, _, _ => none
  | k + 1, x9, x11, x59, x60 => if x60 < x59 then (if 0 ≤ x60 then (if x60 < (x11.length : Int) then (if x60 < (x9.length : Int) then (impl_ZeroFind.l0 k x9 (x11.set (x60 : Int).toNat (wrap64 ((rd x11 x60) * (rd x9 x60)))) x59 (wrap64 (x60 + 1))) else (none)) else (none)) else (none)) else ((impl_plain.f k x11).bind fun t404 => (some (t404, true)))
def impl_ZeroFind.f (k : Nat) (l0 : List Int) : Option (List Int × Bool) := (impl_FormValid.f k l0).bind fun t377 => (if t377 = true then (if (l0.length : Int) = 2 then (if 0 < (l0.length : Int) then ((impl_coreOf.f k (rd l0 0)).bind fun bt379 => (if 1 < (l0.length : Int) then ((impl_coreOf.f k (rd l0 1)).bind fun bt382 => (if bt379.1 = (wrap64 (-bt382.1)) then ((impl_plain.f k (([bt382.2, bt379.2] : List Int))).bind fun t387 => (some (t387, true))) else (some (([] : List Int), false)))) else (none))) else (none)) else (if (l0.length : Int) = 3 then ((impl_ZeroNormal.f k l0).bind fun bt390 => ((impl_ZeroSearch.f k bt390.1).bind fun bt397 => (if bt397.2 = true then (impl_ZeroFind.l0 k bt390.2.1 bt397.1 (bt397.1.length : Int) 0) else (some (([] : List Int), false))))) else (if (l0.length : Int) = 4 then ((impl_zeroOfFour.f k l0).bind fun bt407 => (some (bt407.1, bt407.2))) else (some (([] : List Int), false))))) else (some (([] : List Int), false)))
theorem impl_ZeroFind.mono_l : ∀ k, (∀ y0 y1 y2 y3, LeO (impl_ZeroFind.l0 k y0 y1 y2 y3) (impl_ZeroFind.l0 (k + 1) y0 y1 y2 y3))
  | 0 => fun _ _ _ _ r h => by simp [impl_ZeroFind.l0] at h
  | k + 1 => by
    have ih0 := impl_ZeroFind.mono_l k
    · intro y0 y1 y2 y3
      unfold impl_ZeroFind.l0
      repeat' first
      | (with_reducible exact ih0 _ _ _ _)
      | (with_reducible exact impl_FormValid.mono _ _)
      | (with_reducible exact impl_ZeroNormal.mono _ _)
      | (with_reducible exact impl_ZeroSearch.mono _ _)
      | (with_reducible exact impl_coreOf.mono _ _)
      | (with_reducible exact impl_plain.mono _ _)
      | (with_reducible exact impl_zeroOfFour.mono _ _)
      | (with_reducible exact LeO.refl _)
      | (with_reducible exact LeO.none _)
      | (with_reducible refine LeO.ite ?_ ?_)
      | (with_reducible refine LeO.bind ?_ (fun _ => ?_))
      | exact ih0 _ _ _ _
      | exact impl_FormValid.mono _ _
      | exact impl_ZeroNormal.mono _ _
      | exact impl_ZeroSearch.mono _ _
      | exact impl_coreOf.mono _ _
      | exact impl_plain.mono _ _
      | exact impl_zeroOfFour.mono _ _
      | exact LeO.none _
      | refine LeO.ite ?_ ?_
      | refine LeO.bind ?_ (fun _ => ?_)
theorem impl_ZeroFind.mono : ∀ a0 k, LeO (impl_ZeroFind.f k a0) (impl_ZeroFind.f (k + 1) a0) := by
  intro a0 k
  have ih0 := impl_ZeroFind.mono_l k
  unfold impl_ZeroFind.f
  repeat' first
      | (with_reducible exact ih0 _ _ _ _)
      | (with_reducible exact impl_FormValid.mono _ _)
      | (with_reducible exact impl_ZeroNormal.mono _ _)
      | (with_reducible exact impl_ZeroSearch.mono _ _)
      | (with_reducible exact impl_coreOf.mono _ _)
      | (with_reducible exact impl_plain.mono _ _)
      | (with_reducible exact impl_zeroOfFour.mono _ _)
      | (with_reducible exact LeO.refl _)
      | (with_reducible exact LeO.none _)
      | (with_reducible refine LeO.ite ?_ ?_)
      | (with_reducible refine LeO.bind ?_ (fun _ => ?_))
      | exact ih0 _ _ _ _
      | exact impl_FormValid.mono _ _
      | exact impl_ZeroNormal.mono _ _
      | exact impl_ZeroSearch.mono _ _
      | exact impl_coreOf.mono _ _
      | exact impl_plain.mono _ _
      | exact impl_zeroOfFour.mono _ _
      | exact LeO.none _
      | refine LeO.ite ?_ ?_
      | refine LeO.bind ?_ (fun _ => ?_)
def impl_ZeroFind.T17 : Bool × List (List Nat × List Nat) := (true, [([], []), ([], []), ([0, 1], [0, 1]), ([2], [2]), ([], []), ([], []), ([4, 5], [4, 5]), ([6], [6]), ([3, 7], [3, 7]), ([0, 1, 0, 1, 2, 3, 4, 5, 6, 7, 8], [0, 1]), ([9, 8, 0, 1, 2, 3, 4, 5, 6, 7, 8], [8, 9])])
def impl_ZeroFind.B17 : List Nat := [0, 0, 3, 7, 0, 0, 48, 112, 255, 511, 1023]
theorem impl_ZeroFind.tab17 : rtab .any (opsOf Try.f15 17) = impl_ZeroFind.T17 := by kernel_rfl
theorem impl_ZeroFind.bits17 : waitsOk impl_ZeroFind.T17.2 impl_ZeroFind.B17 = true := by kernel_rfl
set_option maxHeartbeats 8000000 in
set_option maxRecDepth 100000 in
theorem impl_ZeroFind.calls (k : Nat) (A0 : Option Addr) (c0 : Nat) (l0 : List Int) (r1 : List Int) (r2 : Bool) (w : World) (hr0 : Kd.C (Kd.int .i64) w A0 l0.length l0) (hc0 : l0.length ≤ c0) (h : impl_ZeroFind.f k l0 = some (r1, r2)) :
    Calls Try.prog 15 #[.slice A0 l0.length c0] w fun e w' => ∃ v0_ : Value, e = .returned (.tuple #[v0_, .bool r2]) ∧ Kd.R (Kd.int .i64) 3 w' w.heap.size (fun _ => True) v0_ r1 ∧ Below w.heap.size w w' := by
  have HR0 := Aside0.mk hr0; have HC0 := Aside0.mk hc0; clear hr0 hc0; have HB := Aside0.mk (Below.refl w.heap.size w); unfold impl_ZeroFind.f at h; have H := h; clear h; obtain ⟨t377, A2, H⟩ := bnd H
  by_cases c3 : t377 = true
  · subst c3
    replace H := ifT H
    by_cases c4 : (l0.length : Int) = 2
    · rw [if_pos c4] at H
      have c4b0 : ((l0.length : Int) == 2) = true := beq_iff_eq.mpr c4; have c4b1 : ((l0.length : Int) != 2) = false := bne_eq_false_iff_eq.mpr c4; clear c4; obtain ⟨c5, H⟩ := ifN H; have c5b0 : decide (0 < (l0.length : Int)) = true := decide_eq_true c5; have c5b1 : decide (0 < l0.length) = true := decide_eq_true (by omega); clear c5; obtain ⟨⟨t379, t380⟩, A6, H⟩ := bnd H
      replace H : (if 1 < (l0.length : Int) then ((impl_coreOf.f k (rd l0 1)).bind fun bt382 => (if t379 = (wrap64 (-bt382.1)) then ((impl_plain.f k (([bt382.2, t380] : List Int))).bind fun t387 => (some (t387, true))) else (some (([] : List Int), false)))) else (none)) = some (r1, r2) := H
      obtain ⟨c7, H⟩ := ifN H; have c7b0 : decide (1 < (l0.length : Int)) = true := decide_eq_true c7; have c7b1 : decide (1 < l0.length) = true := decide_eq_true (by omega); clear c7; obtain ⟨⟨t382, t383⟩, A8, H⟩ := bnd H; replace H : (if t379 = (wrap64 (-t382)) then ((impl_plain.f k (([t383, t380] : List Int))).bind fun t387 => (some (t387, true))) else (some (([] : List Int), false))) = some (r1, r2) := H
      by_cases c9 : t379 = (wrap64 (-t382))
      · rw [if_pos c9] at H
        have c9b0 : (t379 == (wrap64 (-t382))) = true := beq_iff_eq.mpr c9; have c9b1 : (t379 != (wrap64 (-t382))) = false := bne_eq_false_iff_eq.mpr c9; clear c9; obtain ⟨y384, hy384⟩ : ∃ y_ : List Int, y_ = (([t383, t380] : List Int)) := ⟨_, rfl⟩; replace H : ((impl_plain.f k y384).bind fun t387 => (some (t387, true))) = some (r1, r2) := rH hy384 H; have Ny384 := Aside0.mk hy384; clear hy384; obtain ⟨t387, A10, H⟩ := bnd H; simp only [Option.some.injEq, Prod.mk.injEq] at H; obtain ⟨rfl, rfl⟩ := H; go_enter Try.func15, Try.ntmps15
        go_wp2_with (first | ((with_reducible refine gate_callee (f := 20) rfl ?_); refine goesK (some 15) Try.func20 #[.slice A0 l0.length c0] ?_; (with_reducible refine (impl_FormValid.calls k _ _ l0 true _ ?side1 ?side2 A2.out).mono ?_); (case side1 => exact U HR0.out); (case side2 => exact HC0.out); rintro e w11 ⟨rfl, hb⟩; refine ⟨_, rfl, ?_⟩; replace HB := BS hb; (try clear hb); have p378 : 0 ≤ (0 : Int) := (by omega); have q378 : 0 < (l0.length : Int) := oD; obtain ⟨ad378, e378, hx378_0⟩ := Kd.at_int HR0.out 0 p378 q378; cases e378; have qi378 : (0 < l0.length) = True := eq_true (by omega); (try rw [show ((0 : Int)).toNat = 0 from rfl] at hx378_0); (try rw [Addr.add_zero'] at hx378_0); replace hx378_0 := (HB.out.cell (World.block_lt_of_cell? w _ hx378_0)).trans hx378_0; replace p378 := eq_true p378; replace q378 := eq_true q378) | ((with_reducible refine gate_callee (f := 44) rfl ?_); refine goesK (some 25) Try.func44 #[.int .i64 (rd l0 0)] ?_; (with_reducible refine (impl_coreOf.calls k (rd l0 0) t379 t380 _ A6.out).mono ?_); rintro e w12 ⟨rfl, hb⟩; refine ⟨_, rfl, ?_⟩; replace HB := BS hb; (try clear hb); have p381 : 0 ≤ (1 : Int) := (by omega); have q381 : 1 < (l0.length : Int) := oD; obtain ⟨ad381, e381, hx381_0⟩ := Kd.at_int HR0.out 1 p381 q381; obtain rfl : ad378 = ad381 := (by injection e381); (try simp only [show (1 : Int).toNat = 1 from rfl, Nat.reduceMul, Nat.reduceEqDiff, Go.Addr.add, ↓reduceIte] at hx381_0); have qi381 : (1 < l0.length) = True := eq_true (by omega); (try rw [show ((1 : Int)).toNat = 1 from rfl] at hx381_0); replace hx381_0 := (HB.out.cell (World.block_lt_of_cell? w _ hx381_0)).trans hx381_0; replace p381 := eq_true p381; replace q381 := eq_true q381) | ((with_reducible refine gate_callee (f := 44) rfl ?_); refine goesK (some 32) Try.func44 #[.int .i64 (rd l0 1)] ?_; (with_reducible refine (impl_coreOf.calls k (rd l0 1) t382 t383 _ A8.out).mono ?_); rintro e w13 ⟨rfl, hb⟩; refine ⟨_, rfl, ?_⟩; replace HB := BS hb; (try clear hb)) | ((with_reducible refine gate_dst (N := 41) rfl ?_); refine Kd.R_lit (Kd.int .i64) _ 3 ?hg (N := 41) ?hd (xs := ([t383, t380] : List Int)) (inner := [.int .i64 t383, .int .i64 t380]) (ok := fun _ => True) (okp := fun _ => True) ?hr ?hp (fun _ hk => hk) trivial (Below.refl _ _) (Nat.le_refl _) (by simp) ?_; (case hd => rfl); (case hg => rfl); (case hr => first | (go_simp; done) | (go_simp; rfl)); (case hp => exact (Reps.one (show Kd.M (Kd.int .i64) _ _ _ t383 [.int .i64 t383] from rfl) (Reps.one (show Kd.M (Kd.int .i64) _ _ _ t380 [.int .i64 t380] from rfl) (Reps.none _ _)))); intro v385 w14 ho15 hb hg_ hnew_; clear hg_ hnew_; (first | rw [← Ny384.out] at ho15 | (simp only [Int.reduceToNat] at ho15; rw [← Ny384.out] at ho15)); have HO386 := Aside0.mk (Kd.R_lower ho15 (below_size BU)); replace HB := BS hb; clear hb ho15; obtain ⟨Ao16, co16, eo16⟩ := Kd.R_slice HO386.out; subst eo16) | ((with_reducible refine gate_callee (f := 40) rfl ?_); refine goesK (some 42) Try.func40 #[.slice Ao16 y384.length co16] ?_; (with_reducible refine (impl_plain.calls k _ _ y384 t387 _ ?side1 ?side2 A10.out).mono ?_); (case side1 => exact U ((Kd.R_reads' HO386.out).2.2)); (case side2 => exact (Kd.R_reads' HO386.out).2.1); rintro e w17 ⟨v388, rfl, ho0, hb⟩; refine ⟨_, rfl, ?_⟩; have HO389 := Aside0.mk (Kd.R_lower (Kd.R_new' ho0 (Kd.R_lt (U HO386.out))) (below_size BU)); replace HO386 := Aside0.mk (Kd.R_elder' (U HO386.out) (Kd.R_base ho0) hb); replace HB := BS hb; (try clear hb); (try clear ho0)))
        go_ret2
        exact ⟨_, eR, Kd.RM HO389.out (fun _ hk => trivial), BU⟩
      rw [if_neg c9] at H; have c9b0 : (t379 == (wrap64 (-t382))) = false := beq_eq_false_iff_ne.mpr c9; have c9b1 : (t379 != (wrap64 (-t382))) = true := bne_iff_ne.mpr c9; simp only [Option.some.injEq, Prod.mk.injEq] at H; obtain ⟨rfl, rfl⟩ := H; go_enter Try.func15, Try.ntmps15
      go_wp2_with (first | ((with_reducible refine gate_callee (f := 20) rfl ?_); refine goesK (some 15) Try.func20 #[.slice A0 l0.length c0] ?_; (with_reducible refine (impl_FormValid.calls k _ _ l0 true _ ?side1 ?side2 A2.out).mono ?_); (case side1 => exact U HR0.out); (case side2 => exact HC0.out); rintro e w18 ⟨rfl, hb⟩; refine ⟨_, rfl, ?_⟩; replace HB := BS hb; (try clear hb); have p378 : 0 ≤ (0 : Int) := (by omega); have q378 : 0 < (l0.length : Int) := oD; obtain ⟨ad378, e378, hx378_0⟩ := Kd.at_int HR0.out 0 p378 q378; cases e378; have qi378 : (0 < l0.length) = True := eq_true (by omega); (try rw [show ((0 : Int)).toNat = 0 from rfl] at hx378_0); (try rw [Addr.add_zero'] at hx378_0); replace hx378_0 := (HB.out.cell (World.block_lt_of_cell? w _ hx378_0)).trans hx378_0; replace p378 := eq_true p378; replace q378 := eq_true q378) | ((with_reducible refine gate_callee (f := 44) rfl ?_); refine goesK (some 25) Try.func44 #[.int .i64 (rd l0 0)] ?_; (with_reducible refine (impl_coreOf.calls k (rd l0 0) t379 t380 _ A6.out).mono ?_); rintro e w19 ⟨rfl, hb⟩; refine ⟨_, rfl, ?_⟩; replace HB := BS hb; (try clear hb); have p381 : 0 ≤ (1 : Int) := (by omega); have q381 : 1 < (l0.length : Int) := oD; obtain ⟨ad381, e381, hx381_0⟩ := Kd.at_int HR0.out 1 p381 q381; obtain rfl : ad378 = ad381 := (by injection e381); (try simp only [show (1 : Int).toNat = 1 from rfl, Nat.reduceMul, Nat.reduceEqDiff, Go.Addr.add, ↓reduceIte] at hx381_0); have qi381 : (1 < l0.length) = True := eq_true (by omega); (try rw [show ((1 : Int)).toNat = 1 from rfl] at hx381_0); replace hx381_0 := (HB.out.cell (World.block_lt_of_cell? w _ hx381_0)).trans hx381_0; replace p381 := eq_true p381; replace q381 := eq_true q381) | ((with_reducible refine gate_callee (f := 44) rfl ?_); refine goesK (some 32) Try.func44 #[.int .i64 (rd l0 1)] ?_; (with_reducible refine (impl_coreOf.calls k (rd l0 1) t382 t383 _ A8.out).mono ?_); rintro e w20 ⟨rfl, hb⟩; refine ⟨_, rfl, ?_⟩; replace HB := BS hb; (try clear hb)))
      go_ret2
      exact ⟨_, eR, by first | exact Kd.R_nil _ _ _ _ _ | exact Kd.N_nil _ _ _ _ _ | exact Kd.V_nil _ _ _ _ _ | exact Kd.Q_nil _ _ _ _ _ | exact Kd.S_nil _ _ _ _ _, BU⟩
    rw [if_neg c4] at H; have c4b0 : ((l0.length : Int) == 2) = false := beq_eq_false_iff_ne.mpr c4; have c4b1 : ((l0.length : Int) != 2) = true := bne_iff_ne.mpr c4
    by_cases c21 : (l0.length : Int) = 3
    · rw [if_pos c21] at H
      have c21b0 : ((l0.length : Int) == 3) = true := beq_iff_eq.mpr c21; have c21b1 : ((l0.length : Int) != 3) = false := bne_eq_false_iff_eq.mpr c21; clear c21; obtain ⟨⟨t390, t391, t392⟩, A22, H⟩ := bnd H
      replace H : ((impl_ZeroSearch.f k t390).bind fun bt397 => (if bt397.2 = true then (impl_ZeroFind.l0 k t391 bt397.1 (bt397.1.length : Int) 0) else (some (([] : List Int), false)))) = some (r1, r2) := H
      obtain ⟨⟨t397, t398⟩, A23, H⟩ := bnd H; replace H : (if t398 = true then (impl_ZeroFind.l0 k t391 t397 (t397.length : Int) 0) else (some (([] : List Int), false))) = some (r1, r2) := H
      by_cases c24 : t398 = true
      · subst c24
        replace H := ifT H; have H' := Aside0.mk H; clear H; go_enter Try.func15, Try.ntmps15
        go_wp2_with (first | ((with_reducible refine gate_callee (f := 20) rfl ?_); refine goesK (some 15) Try.func20 #[.slice A0 l0.length c0] ?_; (with_reducible refine (impl_FormValid.calls k _ _ l0 true _ ?side1 ?side2 A2.out).mono ?_); (case side1 => exact U HR0.out); (case side2 => exact HC0.out); rintro e w25 ⟨rfl, hb⟩; refine ⟨_, rfl, ?_⟩; replace HB := BS hb; (try clear hb)) | ((with_reducible refine gate_callee (f := 45) rfl ?_); refine goesK (some 47) Try.func45 #[.slice A0 l0.length c0] ?_; (with_reducible refine (impl_ZeroNormal.calls k _ _ l0 t390 t391 t392 _ ?side1 ?side2 A22.out).mono ?_); (case side1 => exact U (Kd.C_below HR0.out HB.out)); (case side2 => exact HC0.out); rintro e w26 ⟨v393, v395, rfl, ho0, ho1, hb⟩; refine ⟨_, rfl, ?_⟩; have HO394 := Aside0.mk (Kd.R_lower ho0 (below_size BU)); have HO396 := Aside0.mk (Kd.R_lower ho1 (below_size BU)); replace HB := BS hb; (try clear hb); (try clear ho0); (try clear ho1); obtain ⟨Ao27, co27, eo27⟩ := Kd.R_slice HO394.out; subst eo27) | ((with_reducible refine gate_callee (f := 46) rfl ?_); refine goesK (some 53) Try.func46 #[.slice Ao27 t390.length co27] ?_; (with_reducible refine (impl_ZeroSearch.calls k _ _ t390 t397 true _ ?side1 ?side2 A23.out).mono ?_); (case side1 => exact U ((Kd.R_reads' HO394.out).2.2)); (case side2 => exact (Kd.R_reads' HO394.out).2.1); rintro e w28 ⟨v399, rfl, ho0, hb⟩; refine ⟨_, rfl, ?_⟩; have HO400 := Aside0.mk (Kd.R_lower (Kd.R_new' (Kd.R_new' ho0 (Kd.R_lt (U HO394.out))) (Kd.R_lt (U HO396.out))) (below_size BU)); replace HO394 := Aside0.mk (Kd.R_elder' (U HO394.out) (Kd.R_base ho0) hb); replace HO396 := Aside0.mk (Kd.R_elder' (U HO396.out) (Kd.R_base ho0) hb); replace HB := BS hb; (try clear hb); (try clear ho0); obtain ⟨Ao29, co29, eo29⟩ := Kd.R_slice HO400.out; subst eo29))
        go_loopg [60] k (fun kq v60 w' => ∃ (x11_1 : List Int) (x60_1 : Int), v60 = .int .i64 x60_1 ∧ Aside0 (impl_ZeroFind.l0 kq t391 x11_1 (t397.length : Int) x60_1 = some (r1, r2)) ∧ Aside0 (kq ≤ k) ∧ Aside0 (Kd.R (Kd.int .i64) 3 w' w.heap.size (fun k_ => some k_ ≠ ((.slice Ao29 t397.length co29) : Value).ownBlock) v395 t391) ∧ Aside0 (Kd.R (Kd.int .i64) 3 w' w.heap.size (fun k_ => some k_ ≠ (v395 : Value).ownBlock) (.slice Ao29 t397.length co29) x11_1) ∧ Aside0 (Below w.heap.size w w'))
        case atStart => exact ⟨(t397), (0), sR, H', ⟨Nat.le_refl _⟩, ⟨Kd.RM HO396.out (fun _ hk => hk.2)⟩, ⟨Kd.RM HO400.out (fun _ hk => hk.2)⟩, ⟨BU⟩⟩
        case round =>
          clear H'; (try clear c3); (try clear c4); (try clear c4b0); (try clear c4b1); (try clear c21); (try clear c21b0); (try clear c21b1); (try clear c24); obtain ⟨x11_1, x60_1, rfl, HA, HK1, HO_9, HO_11, HB⟩ := hrel; have hl11_1 := (Kd.R_reads' HO_11.out).1; rw [hl11_1] at HO_11
          (try simp only [hl11_1])
          (try simp only [hl11_1] at HO_9)
          cases gk with
          | zero => exact absurd HA.out (by simp [impl_ZeroFind.l0])
          | succ k1 =>
            have H := HA.out; clear HA; simp only [impl_ZeroFind.l0] at H
            by_cases c30 : x60_1 < (t397.length : Int)
            · rw [if_pos c30] at H
              have c30b0 : decide (x60_1 < (t397.length : Int)) = true := decide_eq_true c30; clear c30; obtain ⟨c31, H⟩ := ifN H; have c31b0 : decide (0 ≤ x60_1) = true := decide_eq_true c31; clear c31; obtain ⟨c32, H⟩ := ifN H; have c32b0 : decide (x60_1 < (x11_1.length : Int)) = true := decide_eq_true c32; clear c32; obtain ⟨c33, H⟩ := ifN H; have c33b0 : decide (x60_1 < (t391.length : Int)) = true := decide_eq_true c33; clear c33; obtain ⟨y403, hy403⟩ : ∃ y_ : List Int, y_ = (x11_1.set (x60_1 : Int).toNat (wrap64 ((rd x11_1 x60_1) * (rd t391 x60_1)))) := ⟨_, rfl⟩; replace H : (impl_ZeroFind.l0 k1 t391 y403 (t397.length : Int) (wrap64 (x60_1 + 1))) = some (r1, r2) := rH hy403 H; have Ny403 := Aside0.mk hy403; clear hy403; have H' := Aside0.mk H; clear H
              try go_wp2
              replace HO_9 := Aside0.mk (Kd.R_drew HO_9.out); replace HO_11 := Aside0.mk (Kd.R_drew HO_11.out); replace HB := Aside0.mk (below_drew1 HB.out); have p401 : 0 ≤ (x60_1 : Int) := oD; have q401 : x60_1 < (x11_1.length : Int) := oD; obtain ⟨ad401, e401, hx401_0⟩ := Kd.at_int (Kd.R_reads' HO_11.out).2.2 x60_1 p401 q401; cases e401; replace p401 := eq_true p401; replace q401 := eq_true q401; obtain ⟨Ao36, co36, eo36⟩ := Kd.R_slice HO_9.out
              (first | subst eo36 | (injection eo36 with f1_ f2_ f3_; have f4_ := f1_.symm; have f5_ := f3_.symm; clear f1_ f2_ f3_; subst f4_; subst f5_))
              have p402 : 0 ≤ (x60_1 : Int) := oD; have q402 : x60_1 < (t391.length : Int) := oD; obtain ⟨ad402, e402, hx402_0⟩ := Kd.at_int (Kd.R_reads' HO_9.out).2.2 x60_1 p402 q402; cases e402; replace p402 := eq_true p402; replace q402 := eq_true q402; have p34 : 0 ≤ (x60_1 : Int) := oD; have q34 : (x60_1 : Int) < ((x11_1.length : Int) : Int) := oD; obtain ⟨go34, co34, eo34, gb34, gl34, cl34, HG34⟩ := Kd.R_form HO_11.out (by omega)
              (first | cases eo34 | (injection eo34 with ea_ en_ ec_; (first | subst ea_ | (injection ea_ with ea_; subst ea_)); subst ec_; clear en_))
              have GB34 := Aside0.mk gb34; have GG34 := Aside0.mk HG34; clear gb34 gl34 HG34
              (first | simp only [add_plain] at hx401_0 | skip)
              obtain ⟨hx34_0, hf34_0⟩ := Kd.R_celln 0 HO_11.out (x60_1 : Int) p34 q34; replace p34 := eq_true p34; replace q34 := eq_true q34; have HP37 := Kd.R_putn HO_11.out (x60_1 : Int) (wrap64 ((rd x11_1 x60_1) * (rd t391 x60_1))); rw [← Ny403.out] at HP37; have HQ37 := Aside0.mk HP37; clear HP37
              refine start_ (n := 11) (S := fun w' => w'.cell? ⟨go34, (x60_1).toNat, none⟩ = some (.int .i64 (rd x11_1 x60_1)) ∧ w'.cell? (ad402.add (x60_1).toNat) = some (.int .i64 (rd t391 x60_1))) (ds := [10]) #[false, false, false, false, false, false, false, false, false, false, false] (by kernel_rfl) rfl rfl ⟨hx401_0, hx402_0⟩ (fun hHeld => ?_); refine with_tabW impl_ZeroFind.tab17 impl_ZeroFind.bits17 (fun HT_ HW_ => ?_)
              generalize wr.drew = w35 at HO_9 HO_11 HB GG34 HQ37 hf34_0 hx34_0 hx401_0 hx402_0 hHeld ⊢
              refine pure_ (i := 0) (N := some 63) (v := ?_) (a' := ?_) #[true, false, false, false, false, false, false, false, false, false, false] rfl rfl (any_of HT_.out (by kernel_rfl)) (fun _ _ _ h => h) (Or.inl ⟨by rfl, ?_⟩) ?_ ?_
              rotate_left
              · intro w'
                go_simp
                with_reducible rfl
              rotate_left
              · simp only [Act.put, List.setIfInBounds_toArray, List.set_cons_zero, List.set_cons_succ, i64_w, i32_w]
                rfl
              refine pure_ (i := 1) (N := some 64) (v := ?_) (a' := ?_) #[true, true, false, false, false, false, false, false, false, false, false] rfl rfl (any_of HT_.out (by kernel_rfl)) (fun _ _ _ h => h) (Or.inl ⟨by rfl, ?_⟩) ?_ ?_
              rotate_left
              · intro w'
                go_simp
                with_reducible rfl
              rotate_left
              · simp only [Act.put, List.setIfInBounds_toArray, List.set_cons_zero, List.set_cons_succ, i64_w, i32_w]
                rfl
              refine pure_ (i := 2) (N := some 65) (v := ?_) (a' := ?_) #[true, true, true, false, false, false, false, false, false, false, false] rfl rfl (any_of HT_.out (by kernel_rfl)) (fun _ _ _ h => h) (Or.inl ⟨by rfl, ?_⟩) ?_ ?_
              rotate_left
              · intro w'
                go_simp
                with_reducible rfl
              rotate_left
              · simp only [Act.put, List.setIfInBounds_toArray, List.set_cons_zero, List.set_cons_succ, i64_w, i32_w]
                rfl
              refine pure_ (i := 4) (N := some 67) (v := ?_) (a' := ?_) #[true, true, true, false, true, false, false, false, false, false, false] rfl rfl (any_of HT_.out (by kernel_rfl)) (fun _ _ _ h => h) (Or.inl ⟨by rfl, ?_⟩) ?_ ?_
              rotate_left
              · intro w'
                go_simp
                with_reducible rfl
              rotate_left
              · simp only [Act.put, List.setIfInBounds_toArray, List.set_cons_zero, List.set_cons_succ, i64_w, i32_w]
                rfl
              refine pure_ (i := 5) (N := some 68) (v := ?_) (a' := ?_) #[true, true, true, false, true, true, false, false, false, false, false] rfl rfl (any_of HT_.out (by kernel_rfl)) (fun _ _ _ h => h) (Or.inl ⟨by rfl, ?_⟩) ?_ ?_
              rotate_left
              · intro w'
                go_simp
                with_reducible rfl
              rotate_left
              · simp only [Act.put, List.setIfInBounds_toArray, List.set_cons_zero, List.set_cons_succ, i64_w, i32_w]
                rfl
              refine pure_ (i := 6) (N := some 69) (v := ?_) (a' := ?_) #[true, true, true, false, true, true, true, false, false, false, false] rfl rfl (any_of HT_.out (by kernel_rfl)) (fun _ _ _ h => h) (Or.inl ⟨by rfl, ?_⟩) ?_ ?_
              rotate_left
              · intro w'
                go_simp
                with_reducible rfl
              rotate_left
              · simp only [Act.put, List.setIfInBounds_toArray, List.set_cons_zero, List.set_cons_succ, i64_w, i32_w]
                rfl
              refine take_ (i := 3) (N := some 66) (v := ?_) (a' := ?_) #[true, true, true, true, true, true, true, false, false, false, false] rfl rfl (take_ofW HT_.out HW_.out (by kernel_rfl)) (fun _ _ _ h => h) (Or.inl ⟨by rfl, ?_⟩) hHeld ?_ ?_
              rotate_left
              · rintro w' ⟨s0, s1⟩
                go_simp
                with_reducible rfl
              rotate_left
              · simp only [Act.put, List.setIfInBounds_toArray, List.set_cons_zero, List.set_cons_succ, i64_w, i32_w]
                rfl
              refine take_ (i := 7) (N := some 70) (v := ?_) (a' := ?_) #[true, true, true, true, true, true, true, true, false, false, false] rfl rfl (take_ofW HT_.out HW_.out (by kernel_rfl)) (fun _ _ _ h => h) (Or.inl ⟨by rfl, ?_⟩) hHeld ?_ ?_
              rotate_left
              · rintro w' ⟨s0, s1⟩
                go_simp
                with_reducible rfl
              rotate_left
              · simp only [Act.put, List.setIfInBounds_toArray, List.set_cons_zero, List.set_cons_succ, i64_w, i32_w]
                rfl
              refine pure_ (i := 8) (N := some 71) (v := ?_) (a' := ?_) #[true, true, true, true, true, true, true, true, true, false, false] rfl rfl (any_of HT_.out (by kernel_rfl)) (fun _ _ _ h => h) (Or.inl ⟨by rfl, ?_⟩) ?_ ?_
              rotate_left
              · intro w'
                go_simp
                with_reducible rfl
              rotate_left
              · simp only [Act.put, List.setIfInBounds_toArray, List.set_cons_zero, List.set_cons_succ, i64_w, i32_w]
                rfl
              refine pure_ (i := 9) (N := some 72) (v := ?_) (a' := ?_) #[true, true, true, true, true, true, true, true, true, true, false] rfl rfl (any_of HT_.out (by kernel_rfl)) (fun _ _ _ h => h) (Or.inl ⟨by rfl, ?_⟩) ?_ ?_
              rotate_left
              · intro w'
                go_simp
                with_reducible rfl
              rotate_left
              · simp only [Act.put, List.setIfInBounds_toArray, List.set_cons_zero, List.set_cons_succ, i64_w, i32_w]
                rfl
              refine last_ (i := 10) (N := none) #[true, true, true, true, true, true, true, true, true, true, true] rfl rfl (one_of HT_.out (by kernel_rfl)) (by decide) (fun K hK => ?_)
              refine skip_ (w1 := ?_) (by rfl) rfl ?_ ?_
              rotate_left
              · go_simp
                rfl
              refine hK.out _ _ ?_
              clear hK K
              refine done_ (done_of HT_.out (by kernel_rfl)) ?_
              try go_wp2
              (try simp only [← hl11_1])
              go_roundg k1
              case measure => have := HK1.out; omega
              case rel => exact ⟨(y403), (wrap64 (x60_1 + 1)), sR, H', ⟨by have := HK1.out; omega⟩, ⟨by (try simp only [hl11_1]); (with_reducible repeat (first | apply Kd.R_alloc | apply Kd.R_drewN | apply Kd.R_drew)); exact Kd.R_mono (Kd.R_far (p := ⟨go34, (x60_1 : Int).toNat, none⟩) (Kd.R_mono HO_9.out (fun k_ hk => (⟨hk, fun e_ => hk (by rw [e_]; rfl)⟩ : _ ∧ k_ ≠ go34))) (fun _ hk => hk.2) (.int .i64 (wrap64 ((rd x11_1 x60_1) * (rd t391 x60_1))))) (fun _ hk => hk.1)⟩, ⟨by (try simp only [hl11_1]); (with_reducible repeat (first | apply Kd.R_alloc | apply Kd.R_drewN | apply Kd.R_drew)); exact HQ37.out⟩, ⟨by repeat (first | (with_reducible first | exact HB.out | apply below_alloc | apply pw_below_drewN | apply below_drew1 | refine below_set ?_ GB34.out) | exact HB.out)⟩⟩
            rw [if_neg c30] at H; have c30b0 : decide (x60_1 < (t397.length : Int)) = false := decide_eq_false c30
            try (have c30bz : decide (x60_1 < (x11_1.length : Int)) = false := by rw [← hl11_1]; exact c30b0)
            clear c30; obtain ⟨t404, A38, H⟩ := bnd H; simp only [Option.some.injEq, Prod.mk.injEq] at H; obtain ⟨rfl, rfl⟩ := H
            go_wp2_with (first | ((with_reducible refine gate_callee (f := 40) rfl ?_); refine goesK (some 75) Try.func40 #[.slice Ao29 x11_1.length co29] ?_; (with_reducible refine (impl_plain.calls k1 _ _ x11_1 t404 _ ?side1 ?side2 A38.out).mono ?_); (case side1 => exact U ((Kd.R_reads' HO_11.out).2.2)); (case side2 => exact (Kd.R_reads' HO_11.out).2.1); rintro e w39 ⟨v405, rfl, ho0, hb⟩; refine ⟨_, rfl, ?_⟩; have HO406 := Aside0.mk (Kd.R_lower (Kd.R_new' (Kd.R_new' ho0 (Kd.R_lt (U HO_9.out))) (Kd.R_lt (U HO_11.out))) (below_size BU)); replace HO_9 := Aside0.mk (Kd.R_elder' (U HO_9.out) (Kd.R_base ho0) hb); replace HO_11 := Aside0.mk (Kd.R_elder' (U HO_11.out) (Kd.R_base ho0) hb); replace HB := BS hb; (try clear hb); (try clear ho0)))
            go_ret2
            exact ⟨_, eR, Kd.RM HO406.out (fun _ hk => trivial), BU⟩
      replace c24 := Bool.eq_false_iff.mpr c24; subst c24; replace H := ifF H; simp only [Option.some.injEq, Prod.mk.injEq] at H; obtain ⟨rfl, rfl⟩ := H; go_enter Try.func15, Try.ntmps15
      go_wp2_with (first | ((with_reducible refine gate_callee (f := 20) rfl ?_); refine goesK (some 15) Try.func20 #[.slice A0 l0.length c0] ?_; (with_reducible refine (impl_FormValid.calls k _ _ l0 true _ ?side1 ?side2 A2.out).mono ?_); (case side1 => exact U HR0.out); (case side2 => exact HC0.out); rintro e w40 ⟨rfl, hb⟩; refine ⟨_, rfl, ?_⟩; replace HB := BS hb; (try clear hb)) | ((with_reducible refine gate_callee (f := 45) rfl ?_); refine goesK (some 47) Try.func45 #[.slice A0 l0.length c0] ?_; (with_reducible refine (impl_ZeroNormal.calls k _ _ l0 t390 t391 t392 _ ?side1 ?side2 A22.out).mono ?_); (case side1 => exact U (Kd.C_below HR0.out HB.out)); (case side2 => exact HC0.out); rintro e w41 ⟨v393, v395, rfl, ho0, ho1, hb⟩; refine ⟨_, rfl, ?_⟩; have HO394 := Aside0.mk (Kd.R_lower ho0 (below_size BU)); have HO396 := Aside0.mk (Kd.R_lower ho1 (below_size BU)); replace HB := BS hb; (try clear hb); (try clear ho0); (try clear ho1); obtain ⟨Ao42, co42, eo42⟩ := Kd.R_slice HO394.out; subst eo42) | ((with_reducible refine gate_callee (f := 46) rfl ?_); refine goesK (some 53) Try.func46 #[.slice Ao42 t390.length co42] ?_; (with_reducible refine (impl_ZeroSearch.calls k _ _ t390 t397 false _ ?side1 ?side2 A23.out).mono ?_); (case side1 => exact U ((Kd.R_reads' HO394.out).2.2)); (case side2 => exact (Kd.R_reads' HO394.out).2.1); rintro e w43 ⟨v399, rfl, ho0, hb⟩; refine ⟨_, rfl, ?_⟩; have HO400 := Aside0.mk (Kd.R_lower (Kd.R_new' (Kd.R_new' ho0 (Kd.R_lt (U HO394.out))) (Kd.R_lt (U HO396.out))) (below_size BU)); replace HO394 := Aside0.mk (Kd.R_elder' (U HO394.out) (Kd.R_base ho0) hb); replace HO396 := Aside0.mk (Kd.R_elder' (U HO396.out) (Kd.R_base ho0) hb); replace HB := BS hb; (try clear hb); (try clear ho0)))
      go_ret2
      exact ⟨_, eR, by first | exact Kd.R_nil _ _ _ _ _ | exact Kd.N_nil _ _ _ _ _ | exact Kd.V_nil _ _ _ _ _ | exact Kd.Q_nil _ _ _ _ _ | exact Kd.S_nil _ _ _ _ _, BU⟩
    rw [if_neg c21] at H; have c21b0 : ((l0.length : Int) == 3) = false := beq_eq_false_iff_ne.mpr c21; have c21b1 : ((l0.length : Int) != 3) = true := bne_iff_ne.mpr c21
    by_cases c44 : (l0.length : Int) = 4
    · rw [if_pos c44] at H
      have c44b0 : ((l0.length : Int) == 4) = true := beq_iff_eq.mpr c44; have c44b1 : ((l0.length : Int) != 4) = false := bne_eq_false_iff_eq.mpr c44; clear c44; obtain ⟨⟨t407, t408⟩, A45, H⟩ := bnd H; replace H : (some (t407, t408)) = some (r1, r2) := H; simp only [Option.some.injEq, Prod.mk.injEq] at H; obtain ⟨rfl, rfl⟩ := H; go_enter Try.func15, Try.ntmps15
      go_wp2_with (first | ((with_reducible refine gate_callee (f := 20) rfl ?_); refine goesK (some 15) Try.func20 #[.slice A0 l0.length c0] ?_; (with_reducible refine (impl_FormValid.calls k _ _ l0 true _ ?side1 ?side2 A2.out).mono ?_); (case side1 => exact U HR0.out); (case side2 => exact HC0.out); rintro e w46 ⟨rfl, hb⟩; refine ⟨_, rfl, ?_⟩; replace HB := BS hb; (try clear hb)) | ((with_reducible refine gate_callee (f := 47) rfl ?_); refine goesK (some 79) Try.func47 #[.slice A0 l0.length c0] ?_; (with_reducible refine (impl_zeroOfFour.calls k _ _ l0 t407 t408 _ ?side1 ?side2 A45.out).mono ?_); (case side1 => exact U (Kd.C_below HR0.out HB.out)); (case side2 => exact HC0.out); rintro e w47 ⟨v409, rfl, ho0, hb⟩; refine ⟨_, rfl, ?_⟩; have HO410 := Aside0.mk (Kd.R_lower ho0 (below_size BU)); replace HB := BS hb; (try clear hb); (try clear ho0)))
      go_ret2
      exact ⟨_, eR, U HO410.out, BU⟩
    rw [if_neg c44] at H; have c44b0 : ((l0.length : Int) == 4) = false := beq_eq_false_iff_ne.mpr c44; have c44b1 : ((l0.length : Int) != 4) = true := bne_iff_ne.mpr c44; simp only [Option.some.injEq, Prod.mk.injEq] at H; obtain ⟨rfl, rfl⟩ := H; go_enter Try.func15, Try.ntmps15
    go_wp2_with (first | ((with_reducible refine gate_callee (f := 20) rfl ?_); refine goesK (some 15) Try.func20 #[.slice A0 l0.length c0] ?_; (with_reducible refine (impl_FormValid.calls k _ _ l0 true _ ?side1 ?side2 A2.out).mono ?_); (case side1 => exact U HR0.out); (case side2 => exact HC0.out); rintro e w48 ⟨rfl, hb⟩; refine ⟨_, rfl, ?_⟩; replace HB := BS hb; (try clear hb)))
    go_ret2
    exact ⟨_, eR, by first | exact Kd.R_nil _ _ _ _ _ | exact Kd.N_nil _ _ _ _ _ | exact Kd.V_nil _ _ _ _ _ | exact Kd.Q_nil _ _ _ _ _ | exact Kd.S_nil _ _ _ _ _, BU⟩
  replace c3 := Bool.eq_false_iff.mpr c3; subst c3; replace H := ifF H; simp only [Option.some.injEq, Prod.mk.injEq] at H; obtain ⟨rfl, rfl⟩ := H; go_enter Try.func15, Try.ntmps15
  go_wp2_with (first | ((with_reducible refine gate_callee (f := 20) rfl ?_); refine goesK (some 15) Try.func20 #[.slice A0 l0.length c0] ?_; (with_reducible refine (impl_FormValid.calls k _ _ l0 false _ ?side1 ?side2 A2.out).mono ?_); (case side1 => exact U HR0.out); (case side2 => exact HC0.out); rintro e w49 ⟨rfl, hb⟩; refine ⟨_, rfl, ?_⟩; replace HB := BS hb; (try clear hb)))
  go_ret2
  exact ⟨_, eR, by first | exact Kd.R_nil _ _ _ _ _ | exact Kd.N_nil _ _ _ _ _ | exact Kd.V_nil _ _ _ _ _ | exact Kd.Q_nil _ _ _ _ _ | exact Kd.S_nil _ _ _ _ _, BU⟩

/-! ### impl_vectorOk: function 24 -/
def impl_vectorOk.l0 : Nat → List Int → List Int → Int → List Int → Int → Int → Option (Bool)
  | 0, _, _, _, _, _, _ => none
  | k + 1, x0, x1, x2, x9, x10, x11 => if x11 < x10 then (if 0 ≤ x11 then (if x11 < (x9.length : Int) then (if (rd x9 x11) < (wrap64 (-x2)) then (some false) else (if (rd x9 x11) > x2 then (some false) else (impl_vectorOk.l0 k x0 x1 x2 x9 x10 (wrap64 (x11 + 1))))) else (none)) else (none)) else (some ((x1.length : Int) == (x0.length : Int)))
def impl_vectorOk.f (k : Nat) (l0 : List Int) (l1 : List Int) (a2 : Int) : Option (Bool) := impl_vectorOk.l0 k l0 l1 a2 l1 (l1.length : Int) 0
theorem impl_vectorOk.mono_l : ∀ k, (∀ y0 y1 y2 y3 y4 y5, LeO (impl_vectorOk.l0 k y0 y1 y2 y3 y4 y5) (impl_vectorOk.l0 (k + 1) y0 y1 y2 y3 y4 y5))
  | 0 => fun _ _ _ _ _ _ r h => by simp [impl_vectorOk.l0] at h
  | k + 1 => by
    have ih0 := impl_vectorOk.mono_l k
    · intro y0 y1 y2 y3 y4 y5
      unfold impl_vectorOk.l0
      repeat' first
      | (with_reducible exact ih0 _ _ _ _ _ _)
      | (with_reducible exact LeO.refl _)
      | (with_reducible exact LeO.none _)
      | (with_reducible refine LeO.ite ?_ ?_)
      | (with_reducible refine LeO.bind ?_ (fun _ => ?_))
      | exact ih0 _ _ _ _ _ _
      | exact LeO.none _
      | refine LeO.ite ?_ ?_
      | refine LeO.bind ?_ (fun _ => ?_)
theorem impl_vectorOk.mono : ∀ a0 a1 a2 k, LeO (impl_vectorOk.f k a0 a1 a2) (impl_vectorOk.f (k + 1) a0 a1 a2) := by
  intro a0 a1 a2 k
  have ih0 := impl_vectorOk.mono_l k
  unfold impl_vectorOk.f
  repeat' first
      | (with_reducible exact ih0 _ _ _ _ _ _)
      | (with_reducible exact LeO.refl _)
      | (with_reducible exact LeO.none _)
      | (with_reducible refine LeO.ite ?_ ?_)
      | (with_reducible refine LeO.bind ?_ (fun _ => ?_))
      | exact ih0 _ _ _ _ _ _
      | exact LeO.none _
      | refine LeO.ite ?_ ?_
      | refine LeO.bind ?_ (fun _ => ?_)
set_option maxHeartbeats 8000000 in
set_option maxRecDepth 100000 in
theorem impl_vectorOk.calls (k : Nat) (A0 : Option Addr) (c0 : Nat) (l0 : List Int) (A1 : Option Addr) (c1 : Nat) (l1 : List Int) (a2 : Int) (r : Bool) (w : World) (hr0 : Kd.C (Kd.int .i64) w A0 l0.length l0) (hc0 : l0.length ≤ c0) (hr1 : Kd.C (Kd.int .i64) w A1 l1.length l1) (hc1 : l1.length ≤ c1) (h : impl_vectorOk.f k l0 l1 a2 = some r) :
    Calls Try.prog 24 #[.slice A0 l0.length c0, .slice A1 l1.length c1, .int .i64 a2] w fun e w' => e = .returned (.bool r) ∧ Drawn0 w w' := by
  have HR0 := Aside0.mk hr0; have HC0 := Aside0.mk hc0; clear hr0 hc0; have HR1 := Aside0.mk hr1; have HC1 := Aside0.mk hc1; clear hr1 hc1; unfold impl_vectorOk.f at h; have H := h; clear h; have H' := Aside0.mk H; clear H; go_enter Try.func24, Try.ntmps24
  go_wp2
  go_loopg [11] k (fun kq v11 w' => ∃ (x11_1 : Int), v11 = .int .i64 x11_1 ∧ Aside0 (impl_vectorOk.l0 kq l0 l1 a2 l1 (l1.length : Int) x11_1 = some r) ∧ Aside0 (kq ≤ k) ∧ Drawn0 w w')
  case atStart => exact ⟨(0), sR, H', ⟨Nat.le_refl _⟩, by repeat (first | exact Drawn0.refl _ | apply Drawn0.step)⟩
  case round =>
    clear H'; obtain ⟨x11_1, rfl, HA, HK1, ⟨m1, rfl⟩⟩ := hrel; cases gk with
    | zero => exact absurd HA.out (by simp [impl_vectorOk.l0])
    | succ k1 =>
      have H := HA.out; clear HA; simp only [impl_vectorOk.l0] at H
      by_cases c4 : x11_1 < (l1.length : Int)
      · rw [if_pos c4] at H
        have c4b0 : decide (x11_1 < (l1.length : Int)) = true := decide_eq_true c4; clear c4; obtain ⟨c5, H⟩ := ifN H; have c5b0 : decide (0 ≤ x11_1) = true := decide_eq_true c5; clear c5; obtain ⟨c6, H⟩ := ifN H; have c6b0 : decide (x11_1 < (l1.length : Int)) = true := decide_eq_true c6; clear c6
        by_cases c7 : (rd l1 x11_1) < (wrap64 (-a2))
        · rw [if_pos c7] at H
          have c7b0 : decide ((rd l1 x11_1) < (wrap64 (-a2))) = true := decide_eq_true c7; clear c7; obtain rfl := Option.some.inj H; have p411 : 0 ≤ (x11_1 : Int) := oD; have q411 : x11_1 < (l1.length : Int) := oD; obtain ⟨ad411, e411, hx411_0⟩ := Kd.at_int HR1.out x11_1 p411 q411; cases e411; replace p411 := eq_true p411; replace q411 := eq_true q411
          go_wp2
          go_ret
          exact ⟨by first | rfl | (simp; done) | (simp [*]; done), by repeat (first | exact Drawn0.refl _ | apply Drawn0.step)⟩
        rw [if_neg c7] at H; have c7b0 : decide ((rd l1 x11_1) < (wrap64 (-a2))) = false := decide_eq_false c7; clear c7
        by_cases c8 : (rd l1 x11_1) > a2
        · rw [if_pos c8] at H
          have c8b0 : decide (a2 < (rd l1 x11_1)) = true := decide_eq_true c8; clear c8; obtain rfl := Option.some.inj H; have p411 : 0 ≤ (x11_1 : Int) := oD; have q411 : x11_1 < (l1.length : Int) := oD; obtain ⟨ad411, e411, hx411_0⟩ := Kd.at_int HR1.out x11_1 p411 q411; cases e411; replace p411 := eq_true p411; replace q411 := eq_true q411
          go_wp2
          go_ret
          exact ⟨by first | rfl | (simp; done) | (simp [*]; done), by repeat (first | exact Drawn0.refl _ | apply Drawn0.step)⟩
        rw [if_neg c8] at H; have c8b0 : decide (a2 < (rd l1 x11_1)) = false := decide_eq_false c8; clear c8; have H' := Aside0.mk H; clear H; have p411 : 0 ≤ (x11_1 : Int) := oD; have q411 : x11_1 < (l1.length : Int) := oD; obtain ⟨ad411, e411, hx411_0⟩ := Kd.at_int HR1.out x11_1 p411 q411; cases e411; replace p411 := eq_true p411; replace q411 := eq_true q411
        go_wp2
        go_roundg k1
        case measure => have := HK1.out; omega
        case rel => exact ⟨(wrap64 (x11_1 + 1)), sR, H', ⟨by have := HK1.out; omega⟩, by repeat (first | exact Drawn0.refl _ | apply Drawn0.step)⟩
      rw [if_neg c4] at H; have c4b0 : decide (x11_1 < (l1.length : Int)) = false := decide_eq_false c4; clear c4; obtain rfl := Option.some.inj H
      go_wp2
      go_ret
      exact ⟨by first | rfl | (simp; done) | (simp [*]; done), by repeat (first | exact Drawn0.refl _ | apply Drawn0.step)⟩

/-! ### impl_ZeroIs: function 7 -/
def impl_ZeroIs.j0 : Nat → List Int → List Int → Bool → Option (Bool)
  | 0, _, _, _ => none
  | k + 1, x0, x1, x13 => if x13 = true then (some false) else ((impl_gcd.f k x1).bind fun t414 => (if t414 = 0 then (some false) else ((impl_pair.f k x0 x1 x1).bind fun t415 => (some (t415 == 0)))))
def impl_ZeroIs.f (k : Nat) (l0 : List Int) (l1 : List Int) : Option (Bool) := (impl_FormValid.f k l0).bind fun t412 => (if t412 = true then ((impl_vectorOk.f k l0 l1 1000000).bind fun t413 => (impl_ZeroIs.j0 k l0 l1 (!t413))) else (impl_ZeroIs.j0 k l0 l1 true))
theorem impl_ZeroIs.mono_l : ∀ k, (∀ y0 y1 y2, LeO (impl_ZeroIs.j0 k y0 y1 y2) (impl_ZeroIs.j0 (k + 1) y0 y1 y2))
  | 0 => fun _ _ _ r h => by simp [impl_ZeroIs.j0] at h
  | k + 1 => by
    have ih0 := impl_ZeroIs.mono_l k
    · intro y0 y1 y2
      unfold impl_ZeroIs.j0
      repeat' first
      | (with_reducible exact ih0 _ _ _)
      | (with_reducible exact impl_FormValid.mono _ _)
      | (with_reducible exact impl_gcd.mono _ _)
      | (with_reducible exact impl_pair.mono _ _ _ _)
      | (with_reducible exact impl_vectorOk.mono _ _ _ _)
      | (with_reducible exact LeO.refl _)
      | (with_reducible exact LeO.none _)
      | (with_reducible refine LeO.ite ?_ ?_)
      | (with_reducible refine LeO.bind ?_ (fun _ => ?_))
      | exact ih0 _ _ _
      | exact impl_FormValid.mono _ _
      | exact impl_gcd.mono _ _
      | exact impl_pair.mono _ _ _ _
      | exact impl_vectorOk.mono _ _ _ _
      | exact LeO.none _
      | refine LeO.ite ?_ ?_
      | refine LeO.bind ?_ (fun _ => ?_)
theorem impl_ZeroIs.mono : ∀ a0 a1 k, LeO (impl_ZeroIs.f k a0 a1) (impl_ZeroIs.f (k + 1) a0 a1) := by
  intro a0 a1 k
  have ih0 := impl_ZeroIs.mono_l k
  unfold impl_ZeroIs.f
  repeat' first
      | (with_reducible exact ih0 _ _ _)
      | (with_reducible exact impl_FormValid.mono _ _)
      | (with_reducible exact impl_gcd.mono _ _)
      | (with_reducible exact impl_pair.mono _ _ _ _)
      | (with_reducible exact impl_vectorOk.mono _ _ _ _)
      | (with_reducible exact LeO.refl _)
      | (with_reducible exact LeO.none _)
      | (with_reducible refine LeO.ite ?_ ?_)
      | (with_reducible refine LeO.bind ?_ (fun _ => ?_))
      | exact ih0 _ _ _
      | exact impl_FormValid.mono _ _
      | exact impl_gcd.mono _ _
      | exact impl_pair.mono _ _ _ _
      | exact impl_vectorOk.mono _ _ _ _
      | exact LeO.none _
      | refine LeO.ite ?_ ?_
      | refine LeO.bind ?_ (fun _ => ?_)
set_option maxHeartbeats 8000000 in
set_option maxRecDepth 100000 in
theorem impl_ZeroIs.calls (k : Nat) (A0 : Option Addr) (c0 : Nat) (l0 : List Int) (A1 : Option Addr) (c1 : Nat) (l1 : List Int) (r : Bool) (w : World) (hr0 : Kd.C (Kd.int .i64) w A0 l0.length l0) (hc0 : l0.length ≤ c0) (hr1 : Kd.C (Kd.int .i64) w A1 l1.length l1) (hc1 : l1.length ≤ c1) (h : impl_ZeroIs.f k l0 l1 = some r) :
    Calls Try.prog 7 #[.slice A0 l0.length c0, .slice A1 l1.length c1] w fun e w' => e = .returned (.bool r) ∧ Below w.heap.size w w' := by
  have HR0 := Aside0.mk hr0; have HC0 := Aside0.mk hc0; clear hr0 hc0; have HR1 := Aside0.mk hr1; have HC1 := Aside0.mk hc1; clear hr1 hc1; have HB := Aside0.mk (Below.refl w.heap.size w); unfold impl_ZeroIs.f at h; have H := h; clear h; have HC3 := Aside0.mk H; clear H; go_enter Try.func7, Try.ntmps7
  go_upto_region 1 with (fail)
  go_cut [13] (fun v13 wc => ∃ (kq : Nat) (x13_2 : Bool), v13 = .bool x13_2 ∧ Aside0 (impl_ZeroIs.j0 kq l0 l1 x13_2 = some r) ∧ Aside0 (kq ≤ k) ∧ Aside0 (Below w.heap.size w wc))
  case first =>
    have H := HC3.out; clear HC3; obtain ⟨t412, A4, H⟩ := bnd H
    by_cases c5 : t412 = true
    · subst c5
      replace H := ifT H; obtain ⟨t413, A6, H⟩ := bnd H; have H' := Aside0.mk H; clear H
      go_wp2_with (first | ((with_reducible refine gate_callee (f := 20) rfl ?_); refine goesK (some 6) Try.func20 #[.slice A0 l0.length c0] ?_; (with_reducible refine (impl_FormValid.calls k _ _ l0 true _ ?side1 ?side2 A4.out).mono ?_); (case side1 => exact U (Kd.C_below HR0.out HB.out)); (case side2 => exact HC0.out); rintro e w7 ⟨rfl, hb⟩; refine ⟨_, rfl, ?_⟩; replace HB := BS hb; (try clear hb)) | (go_at_call 24; (with_reducible refine (impl_vectorOk.calls k _ _ l0 _ _ l1 1000000 t413 _ ?side1 ?side2 ?side3 ?side4 A6.out).mono ?_); (case side1 => exact U (Kd.C_below HR0.out HB.out)); (case side2 => exact HC0.out); (case side3 => exact U (Kd.C_below HR1.out HB.out)); (case side4 => exact HC1.out); rintro e w' ⟨rfl, ⟨nd, rfl⟩⟩))
      go_meet
      case rel => exact ⟨_, (!t413), sR, H', ⟨oR⟩, ⟨BU⟩⟩
    replace c5 := Bool.eq_false_iff.mpr c5; subst c5; replace H := ifF H; have H' := Aside0.mk H; clear H
    go_wp2_with (first | ((with_reducible refine gate_callee (f := 20) rfl ?_); refine goesK (some 6) Try.func20 #[.slice A0 l0.length c0] ?_; (with_reducible refine (impl_FormValid.calls k _ _ l0 false _ ?side1 ?side2 A4.out).mono ?_); (case side1 => exact U (Kd.C_below HR0.out HB.out)); (case side2 => exact HC0.out); rintro e w8 ⟨rfl, hb⟩; refine ⟨_, rfl, ?_⟩; replace HB := BS hb; (try clear hb)))
    go_meet
    case rel => exact ⟨_, (true), sR, H', ⟨oR⟩, ⟨BU⟩⟩
  case rest =>
    clear HC3; obtain ⟨kq, x13_2, rfl, HA, HJ2, HB⟩ := hcut; cases kq with
    | zero => exact absurd HA.out (by simp [impl_ZeroIs.j0])
    | succ kj2 =>
      have H := HA.out; clear HA; simp only [impl_ZeroIs.j0] at H
      by_cases c9 : x13_2 = true
      · subst c9
        replace H := ifT H; obtain rfl := Option.some.inj H
        go_wp2
        go_ret
        exact ⟨eR, BU⟩
      replace c9 := Bool.eq_false_iff.mpr c9; subst c9; replace H := ifF H; obtain ⟨t414, A10, H⟩ := bnd H
      by_cases c11 : t414 = 0
      · rw [if_pos c11] at H
        have c11b0 : (t414 == 0) = true := beq_iff_eq.mpr c11; have c11b1 : (t414 != 0) = false := bne_eq_false_iff_eq.mpr c11; clear c11; obtain rfl := Option.some.inj H
        go_wp2_with (first | ((with_reducible refine gate_callee (f := 25) rfl ?_); refine goesK (some 15) Try.func25 #[.slice A1 l1.length c1] ?_; (with_reducible refine (impl_gcd.calls kj2 _ _ l1 t414 _ ?side1 ?side2 A10.out).mono ?_); (case side1 => exact U (Kd.C_below HR1.out HB.out)); (case side2 => exact HC1.out); rintro e w12 ⟨rfl, hb⟩; refine ⟨_, rfl, ?_⟩; replace HB := BS hb; (try clear hb)))
        go_ret
        exact ⟨eR, BU⟩
      rw [if_neg c11] at H; have c11b0 : (t414 == 0) = false := beq_eq_false_iff_ne.mpr c11; have c11b1 : (t414 != 0) = true := bne_iff_ne.mpr c11; obtain ⟨t415, A13, H⟩ := bnd H; obtain rfl := Option.some.inj H
      go_wp2_with (first | ((with_reducible refine gate_callee (f := 25) rfl ?_); refine goesK (some 15) Try.func25 #[.slice A1 l1.length c1] ?_; (with_reducible refine (impl_gcd.calls kj2 _ _ l1 t414 _ ?side1 ?side2 A10.out).mono ?_); (case side1 => exact U (Kd.C_below HR1.out HB.out)); (case side2 => exact HC1.out); rintro e w14 ⟨rfl, hb⟩; refine ⟨_, rfl, ?_⟩; replace HB := BS hb; (try clear hb)) | (go_at_call 26; (with_reducible refine (impl_pair.calls kj2 _ _ l0 _ _ l1 _ _ l1 t415 _ ?side1 ?side2 ?side3 ?side4 ?side5 ?side6 A13.out).mono ?_); (case side1 => exact U (Kd.C_below HR0.out HB.out)); (case side2 => exact HC0.out); (case side3 => exact U (Kd.C_below HR1.out HB.out)); (case side4 => exact HC1.out); (case side5 => exact U (Kd.C_below HR1.out HB.out)); (case side6 => exact HC1.out); rintro e w' ⟨rfl, ⟨nd, rfl⟩⟩))
      go_ret
      exact ⟨eR, BU⟩

/-! ### impl_ZeroHeight: function 16 -/
def impl_ZeroHeight.l0 : Nat → Int → List Int → Int → Int → Option (Int)
  | 0, _, _, _, _ => none
  | k + 1, x5, x12, x13, x14 => if x14 < x13 then (if 0 ≤ x14 then (if x14 < (x12.length : Int) then ((impl_size.f (rd x12 x14)).bind fun t418 => (impl_ZeroHeight.l0 k (mx x5 t418) x12 x13 (wrap64 (x14 + 1)))) else (none)) else (none)) else (some x5)
def impl_ZeroHeight.f (k : Nat) (l0 : List Int) (l1 : List Int) : Option (Int) := (impl_ZeroIs.f k l0 l1).bind fun t416 => (if t416 = true then (impl_ZeroHeight.l0 k 0 l1 (l1.length : Int) 0) else (some (-1)))
theorem impl_ZeroHeight.mono_l : ∀ k, (∀ y0 y1 y2 y3, LeO (impl_ZeroHeight.l0 k y0 y1 y2 y3) (impl_ZeroHeight.l0 (k + 1) y0 y1 y2 y3))
  | 0 => fun _ _ _ _ r h => by simp [impl_ZeroHeight.l0] at h
  | k + 1 => by
    have ih0 := impl_ZeroHeight.mono_l k
    · intro y0 y1 y2 y3
      unfold impl_ZeroHeight.l0
      repeat' first
      | (with_reducible exact ih0 _ _ _ _)
      | (with_reducible exact impl_ZeroIs.mono _ _ _)
      | (with_reducible exact LeO.refl _)
      | (with_reducible exact LeO.none _)
      | (with_reducible refine LeO.ite ?_ ?_)
      | (with_reducible refine LeO.bind ?_ (fun _ => ?_))
      | exact ih0 _ _ _ _
      | exact impl_ZeroIs.mono _ _ _
      | exact LeO.none _
      | refine LeO.ite ?_ ?_
      | refine LeO.bind ?_ (fun _ => ?_)
theorem impl_ZeroHeight.mono : ∀ a0 a1 k, LeO (impl_ZeroHeight.f k a0 a1) (impl_ZeroHeight.f (k + 1) a0 a1) := by
  intro a0 a1 k
  have ih0 := impl_ZeroHeight.mono_l k
  unfold impl_ZeroHeight.f
  repeat' first
      | (with_reducible exact ih0 _ _ _ _)
      | (with_reducible exact impl_ZeroIs.mono _ _ _)
      | (with_reducible exact LeO.refl _)
      | (with_reducible exact LeO.none _)
      | (with_reducible refine LeO.ite ?_ ?_)
      | (with_reducible refine LeO.bind ?_ (fun _ => ?_))
      | exact ih0 _ _ _ _
      | exact impl_ZeroIs.mono _ _ _
      | exact LeO.none _
      | refine LeO.ite ?_ ?_
      | refine LeO.bind ?_ (fun _ => ?_)
set_option maxHeartbeats 8000000 in
set_option maxRecDepth 100000 in
theorem impl_ZeroHeight.calls (k : Nat) (A0 : Option Addr) (c0 : Nat) (l0 : List Int) (A1 : Option Addr) (c1 : Nat) (l1 : List Int) (r : Int) (w : World) (hr0 : Kd.C (Kd.int .i64) w A0 l0.length l0) (hc0 : l0.length ≤ c0) (hr1 : Kd.C (Kd.int .i64) w A1 l1.length l1) (hc1 : l1.length ≤ c1) (h : impl_ZeroHeight.f k l0 l1 = some r) :
    Calls Try.prog 16 #[.slice A0 l0.length c0, .slice A1 l1.length c1] w fun e w' => e = .returned (.int .i64 r) ∧ Below w.heap.size w w' := by
  have HR0 := Aside0.mk hr0; have HC0 := Aside0.mk hc0; clear hr0 hc0; have HR1 := Aside0.mk hr1; have HC1 := Aside0.mk hc1; clear hr1 hc1; have HB := Aside0.mk (Below.refl w.heap.size w); unfold impl_ZeroHeight.f at h; have H := h; clear h; obtain ⟨t416, A3, H⟩ := bnd H
  by_cases c4 : t416 = true
  · subst c4
    replace H := ifT H; have H' := Aside0.mk H; clear H; go_enter Try.func16, Try.ntmps16
    go_wp2_with (first | ((with_reducible refine gate_callee (f := 7) rfl ?_); refine goesK (some 10) Try.func7 #[.slice A0 l0.length c0, .slice A1 l1.length c1] ?_; (with_reducible refine (impl_ZeroIs.calls k _ _ l0 _ _ l1 true _ ?side1 ?side2 ?side3 ?side4 A3.out).mono ?_); (case side1 => exact U HR0.out); (case side2 => exact HC0.out); (case side3 => exact U HR1.out); (case side4 => exact HC1.out); rintro e w5 ⟨rfl, hb⟩; refine ⟨_, rfl, ?_⟩; replace HB := BS hb; (try clear hb)))
    go_loopg [5, 14] k (fun kq v5 v14 w' => ∃ (x5_1 : Int) (x14_1 : Int), v5 = .int .i64 x5_1 ∧ v14 = .int .i64 x14_1 ∧ Aside0 (impl_ZeroHeight.l0 kq x5_1 l1 (l1.length : Int) x14_1 = some r) ∧ Aside0 (kq ≤ k) ∧ Aside0 (Below w.heap.size w w'))
    case atStart => exact ⟨(0), (0), sR, sR, H', ⟨Nat.le_refl _⟩, ⟨BU⟩⟩
    case round =>
      clear H'; (try clear c1); (try clear c4); obtain ⟨x5_1, x14_1, rfl, rfl, HA, HK1, HB⟩ := hrel; cases gk with
      | zero => exact absurd HA.out (by simp [impl_ZeroHeight.l0])
      | succ k1 =>
        have H := HA.out; clear HA; simp only [impl_ZeroHeight.l0] at H
        by_cases c6 : x14_1 < (l1.length : Int)
        · rw [if_pos c6] at H
          have c6b0 : decide (x14_1 < (l1.length : Int)) = true := decide_eq_true c6; clear c6; obtain ⟨c7, H⟩ := ifN H; have c7b0 : decide (0 ≤ x14_1) = true := decide_eq_true c7; clear c7; obtain ⟨c8, H⟩ := ifN H; have c8b0 : decide (x14_1 < (l1.length : Int)) = true := decide_eq_true c8; clear c8; obtain ⟨t418, A9, H⟩ := bnd H; obtain ⟨ji10, hji10⟩ : ∃ j_ : Int, (mx x5_1 t418) = j_ := ⟨_, rfl⟩
          replace H : (impl_ZeroHeight.l0 k1 ji10 l1 (l1.length : Int) (wrap64 (x14_1 + 1))) = some r := by first | (rw [hji10] at H; exact H) | (simp only [hji10] at H ⊢; exact H)
          (try rw [hji10] at A9)
          have hji10_ : (if x5_1 < t418 then t418 else x5_1) = ji10 := hji10; have H' := Aside0.mk H; clear H; have p417 : 0 ≤ (x14_1 : Int) := oD; have q417 : x14_1 < (l1.length : Int) := oD; obtain ⟨ad417, e417, hx417_0⟩ := Kd.at_int HR1.out x14_1 p417 q417; cases e417; replace hx417_0 := (HB.out.cell (World.block_lt_of_cell? w _ hx417_0)).trans hx417_0; replace p417 := eq_true p417; replace q417 := eq_true q417
          go_wp2_with (first | ((with_reducible refine gate_callee (f := 48) rfl ?_); refine goesK (some 20) Try.func48 #[.int .i64 (rd l1 x14_1)] ?_; (with_reducible refine (impl_size.calls (rd l1 x14_1) t418 _ A9.out).mono ?_); rintro e w11 ⟨rfl, hb⟩; refine ⟨_, rfl, ?_⟩; replace HB := BS hb; (try clear hb)))
          go_roundg k1
          case measure => have := HK1.out; omega
          case rel => exact ⟨(ji10), (wrap64 (x14_1 + 1)), (by first | rfl | (simp; done) | (simp only [← hji10] <;> (first | rfl | simp)) | (simp [*]; done)), sR, H', ⟨by have := HK1.out; omega⟩, ⟨BU⟩⟩
        rw [if_neg c6] at H; have c6b0 : decide (x14_1 < (l1.length : Int)) = false := decide_eq_false c6; clear c6; obtain rfl := Option.some.inj H
        go_wp2
        go_ret
        exact ⟨eR, BU⟩
  replace c4 := Bool.eq_false_iff.mpr c4; subst c4; replace H := ifF H; obtain rfl := Option.some.inj H; go_enter Try.func16, Try.ntmps16
  go_wp2_with (first | ((with_reducible refine gate_callee (f := 7) rfl ?_); refine goesK (some 10) Try.func7 #[.slice A0 l0.length c0, .slice A1 l1.length c1] ?_; (with_reducible refine (impl_ZeroIs.calls k _ _ l0 _ _ l1 false _ ?side1 ?side2 ?side3 ?side4 A3.out).mono ?_); (case side1 => exact U HR0.out); (case side2 => exact HC0.out); (case side3 => exact U HR1.out); (case side4 => exact HC1.out); rintro e w12 ⟨rfl, hb⟩; refine ⟨_, rfl, ?_⟩; replace HB := BS hb; (try clear hb)))
  go_ret
  exact ⟨eR, BU⟩

end Go.Proofs.Ytpjgcjkodmkemaa.PFnMany
