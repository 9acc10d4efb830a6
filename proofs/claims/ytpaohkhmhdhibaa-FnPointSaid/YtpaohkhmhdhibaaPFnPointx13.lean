-- Written by a program of this session (wip/print2.py): the functions that the law reaches, plain, and the walks.
import Derived.Test.YtpaohkhmhdhibaaPFnPointx0
import Derived.Test.YtpaohkhmhdhibaaPFnPointx8
import Derived.Test.YtpaohkhmhdhibaaPFnPointx9
import Derived.Test.YtpaohkhmhdhibaaPFnPointx10
import Derived.Test.YtpaohkhmhdhibaaPFnPointx11
namespace Go.Proofs.Ytpaohkhmhdhibaa.PFnPoint
open Go.RowKit Go.Proofs.YtpaohkhmhdhibaaW.PrintWords Go.Proofs.YtpaohkhmhdhibaaW.PrintLast Go.Proofs.YtpaohkhmhdhibaaW.PrintMore
attribute [local go_sem] max2_int min2_int max_two min_two max_three min_three max_four min_four   -- for this text's walks alone
set_option linter.unusedVariables false
set_option linter.unusedSimpArgs false

/-! ### impl_ConicOther: function 17 -/
mutual
def impl_ConicOther.j0 : Nat → List Int → List Int → List Int → Bool → Option (List Int × Bool)
  | 0, _, _, _, _ => none
  | k + 1, x0, x1, x2, x26 => if x26 = true then (some (([] : List Int), false)) else ((impl_pair.f k x0 x2 x2).bind fun t467 => ((impl_pair.f k x0 x1 x2).bind fun t468 => (impl_ConicOther.l0 k x0 x1 x2 t467 t468 (([] : List Int)) (x1.length : Int) 0)))
def impl_ConicOther.l0 : Nat → List Int → List Int → List Int → Int → Int → List Int → Int → Int → Option (List Int × Bool)
  | 0, _, _, _, _, _, _, _, _ => none
  | k + 1, x0, x1, x2, x8, x9, x10, x37, x38 => if x38 < x37 then (if 0 ≤ x38 then (if x38 < (x1.length : Int) then (if x38 < (x2.length : Int) then (if x10.length < 17592186044416 then (impl_ConicOther.l0 k x0 x1 x2 x8 x9 (x10 ++ [wrap64 ((wrap64 (x8 * (rd x1 x38))) - (wrap64 ((wrap64 (2 * x9)) * (rd x2 x38))))]) x37 (wrap64 (x38 + 1))) else (none)) else (none)) else (none)) else (none)) else ((impl_plain.f k x10).bind fun t477 => ((impl_vectorOk.f k x0 t477 1000000).bind fun t480 => (if t480 = true then (some (t477, true)) else (some (([] : List Int), false)))))
end
def impl_ConicOther.f (k : Nat) (l0 : List Int) (l1 : List Int) (l2 : List Int) : Option (List Int × Bool) := (impl_ConicPoint.f k l0 l1).bind fun t464 => (if t464 = true then ((impl_vectorOk.f k l0 l2 20).bind fun t465 => (if t465 = true then ((impl_collinear.f l1 l2).bind fun t466 => (impl_ConicOther.j0 k l0 l1 l2 t466)) else (impl_ConicOther.j0 k l0 l1 l2 true))) else (impl_ConicOther.j0 k l0 l1 l2 true))
theorem impl_ConicOther.mono_l : ∀ k, (∀ y0 y1 y2 y3, LeO (impl_ConicOther.j0 k y0 y1 y2 y3) (impl_ConicOther.j0 (k + 1) y0 y1 y2 y3)) ∧ (∀ y0 y1 y2 y3 y4 y5 y6 y7, LeO (impl_ConicOther.l0 k y0 y1 y2 y3 y4 y5 y6 y7) (impl_ConicOther.l0 (k + 1) y0 y1 y2 y3 y4 y5 y6 y7))
  | 0 => ⟨fun _ _ _ _ r h => by simp [impl_ConicOther.j0] at h, fun _ _ _ _ _ _ _ _ r h => by simp [impl_ConicOther.l0] at h⟩
  | k + 1 => by
    obtain ⟨ih0, ih1⟩ := impl_ConicOther.mono_l k
    refine ⟨?_, ?_⟩ <;> intros <;> (first | unfold impl_ConicOther.j0 | unfold impl_ConicOther.l0) <;> (repeat' first
      | (with_reducible exact ih0 _ _ _ _)
      | (with_reducible exact ih1 _ _ _ _ _ _ _ _)
      | (with_reducible exact impl_ConicPoint.mono _ _ _)
      | (with_reducible exact impl_pair.mono _ _ _ _)
      | (with_reducible exact impl_plain.mono _ _)
      | (with_reducible exact impl_vectorOk.mono _ _ _ _)
      | (with_reducible exact LeO.refl _)
      | (with_reducible exact LeO.none _)
      | (with_reducible refine LeO.ite ?_ ?_)
      | (with_reducible refine LeO.bind ?_ (fun _ => ?_))
      | exact ih0 _ _ _ _
      | exact ih1 _ _ _ _ _ _ _ _
      | exact impl_ConicPoint.mono _ _ _
      | exact impl_pair.mono _ _ _ _
      | exact impl_plain.mono _ _
      | exact impl_vectorOk.mono _ _ _ _
      | exact LeO.none _
      | refine LeO.ite ?_ ?_
      | refine LeO.bind ?_ (fun _ => ?_))
theorem impl_ConicOther.mono : ∀ a0 a1 a2 k, LeO (impl_ConicOther.f k a0 a1 a2) (impl_ConicOther.f (k + 1) a0 a1 a2) := by
  intro a0 a1 a2 k
  obtain ⟨ih0, ih1⟩ := impl_ConicOther.mono_l k
  unfold impl_ConicOther.f
  repeat' first
      | (with_reducible exact ih0 _ _ _ _)
      | (with_reducible exact ih1 _ _ _ _ _ _ _ _)
      | (with_reducible exact impl_ConicPoint.mono _ _ _)
      | (with_reducible exact impl_pair.mono _ _ _ _)
      | (with_reducible exact impl_plain.mono _ _)
      | (with_reducible exact impl_vectorOk.mono _ _ _ _)
      | (with_reducible exact LeO.refl _)
      | (with_reducible exact LeO.none _)
      | (with_reducible refine LeO.ite ?_ ?_)
      | (with_reducible refine LeO.bind ?_ (fun _ => ?_))
      | exact ih0 _ _ _ _
      | exact ih1 _ _ _ _ _ _ _ _
      | exact impl_ConicPoint.mono _ _ _
      | exact impl_pair.mono _ _ _ _
      | exact impl_plain.mono _ _
      | exact impl_vectorOk.mono _ _ _ _
      | exact LeO.none _
      | refine LeO.ite ?_ ?_
      | refine LeO.bind ?_ (fun _ => ?_)
def impl_ConicOther.T8 : Bool × List (List Nat × List Nat) := (true, [([], []), ([], []), ([], []), ([], []), ([2, 3], [2, 3]), ([4], [4]), ([1, 5], [1, 5]), ([], []), ([7], [7]), ([], []), ([], []), ([9, 10], [9, 10]), ([11], [11]), ([8, 12], [8, 12]), ([6, 13], [6, 13]), ([14], [14]), ([0, 15], [0, 15]), ([16, 16, 0, 1, 2, 3, 4, 5, 6, 7, 8, 9, 10, 11, 12, 13, 14, 15, 16], [0, 16])])
def impl_ConicOther.B8 : List Nat := [0, 0, 0, 0, 12, 28, 62, 0, 128, 0, 0, 1536, 3584, 8064, 16382, 32766, 65535, 131071]
theorem impl_ConicOther.tab8 : rtab .any (opsOf Try.f17 8) = impl_ConicOther.T8 := by kernel_rfl
theorem impl_ConicOther.bits8 : waitsOk impl_ConicOther.T8.2 impl_ConicOther.B8 = true := by kernel_rfl
set_option maxHeartbeats 8000000 in
set_option maxRecDepth 100000 in
theorem impl_ConicOther.calls (k : Nat) (A0 : Option Addr) (c0 : Nat) (l0 : List Int) (A1 : Option Addr) (c1 : Nat) (l1 : List Int) (A2 : Option Addr) (c2 : Nat) (l2 : List Int) (r1 : List Int) (r2 : Bool) (w : World) (hr0 : Kd.C (Kd.int .i64) w A0 l0.length l0) (hc0 : l0.length ≤ c0) (hr1 : Kd.C (Kd.int .i64) w A1 l1.length l1) (hc1 : l1.length ≤ c1) (hr2 : Kd.C (Kd.int .i64) w A2 l2.length l2) (hc2 : l2.length ≤ c2) (h : impl_ConicOther.f k l0 l1 l2 = some (r1, r2)) :
    Calls Try.prog 17 #[.slice A0 l0.length c0, .slice A1 l1.length c1, .slice A2 l2.length c2] w fun e w' => ∃ v0_ : Value, e = .returned (.tuple #[v0_, .bool r2]) ∧ Kd.R (Kd.int .i64) 3 w' w.heap.size (fun _ => True) v0_ r1 ∧ Below w.heap.size w w' := by
  have HR0 := Aside0.mk hr0; have HC0 := Aside0.mk hc0; clear hr0 hc0; have HR1 := Aside0.mk hr1; have HC1 := Aside0.mk hc1; clear hr1 hc1; have HR2 := Aside0.mk hr2; have HC2 := Aside0.mk hc2; clear hr2 hc2; have HB := Aside0.mk (Below.refl w.heap.size w); unfold impl_ConicOther.f at h; have H := h; clear h; have HC4 := Aside0.mk H; clear H; go_enter Try.func17, Try.ntmps17
  go_upto_region 1 with (fail)
  go_cut [26] (fun v26 wc => ∃ (kq : Nat) (x26_3 : Bool), v26 = .bool x26_3 ∧ Aside0 (impl_ConicOther.j0 kq l0 l1 l2 x26_3 = some (r1, r2)) ∧ Aside0 (kq ≤ k) ∧ Aside0 (Below w.heap.size w wc))
  case first =>
    have H := HC4.out; clear HC4; obtain ⟨t464, A5, H⟩ := bnd H
    by_cases c6 : t464 = true
    · subst c6
      replace H := ifT H; obtain ⟨t465, A7, H⟩ := bnd H
      by_cases c8 : t465 = true
      · subst c8
        replace H := ifT H; obtain ⟨t466, A9, H⟩ := bnd H; have H' := Aside0.mk H; clear H
        go_wp2_with (first | ((with_reducible refine gate_callee (f := 9) rfl ?_); refine goesK (some 14) Try.func9 #[.slice A0 l0.length c0, .slice A1 l1.length c1] ?_; (with_reducible refine (impl_ConicPoint.calls k _ _ l0 _ _ l1 true _ ?side1 ?side2 ?side3 ?side4 A5.out).mono ?_); (case side1 => exact U (Kd.C_below HR0.out HB.out)); (case side2 => exact HC0.out); (case side3 => exact U (Kd.C_below HR1.out HB.out)); (case side4 => exact HC1.out); rintro e w10 ⟨rfl, hb⟩; refine ⟨_, rfl, ?_⟩; replace HB := BS hb; (try clear hb)) | (go_at_call 30; (with_reducible refine (impl_vectorOk.calls k _ _ l0 _ _ l2 20 true _ ?side1 ?side2 ?side3 ?side4 A7.out).mono ?_); (case side1 => exact U (Kd.C_below HR0.out HB.out)); (case side2 => exact HC0.out); (case side3 => exact U (Kd.C_below HR2.out HB.out)); (case side4 => exact HC2.out); rintro e w' ⟨rfl, ⟨nd, rfl⟩⟩) | (go_at_call 38; (with_reducible refine (impl_collinear.calls _ _ l1 _ _ l2 t466 _ ?side1 ?side2 ?side3 ?side4 A9.out).mono ?_); (case side1 => exact U (Kd.C_below HR1.out BU)); (case side2 => exact HC1.out); (case side3 => exact U (Kd.C_below HR2.out BU)); (case side4 => exact HC2.out); rintro e w' ⟨rfl, ⟨nd, rfl⟩⟩))
        go_meet
        case rel => exact ⟨_, (t466), sR, H', ⟨oR⟩, ⟨BU⟩⟩
      replace c8 := Bool.eq_false_iff.mpr c8; subst c8; replace H := ifF H; have H' := Aside0.mk H; clear H
      go_wp2_with (first | ((with_reducible refine gate_callee (f := 9) rfl ?_); refine goesK (some 14) Try.func9 #[.slice A0 l0.length c0, .slice A1 l1.length c1] ?_; (with_reducible refine (impl_ConicPoint.calls k _ _ l0 _ _ l1 true _ ?side1 ?side2 ?side3 ?side4 A5.out).mono ?_); (case side1 => exact U (Kd.C_below HR0.out HB.out)); (case side2 => exact HC0.out); (case side3 => exact U (Kd.C_below HR1.out HB.out)); (case side4 => exact HC1.out); rintro e w11 ⟨rfl, hb⟩; refine ⟨_, rfl, ?_⟩; replace HB := BS hb; (try clear hb)) | (go_at_call 30; (with_reducible refine (impl_vectorOk.calls k _ _ l0 _ _ l2 20 false _ ?side1 ?side2 ?side3 ?side4 A7.out).mono ?_); (case side1 => exact U (Kd.C_below HR0.out HB.out)); (case side2 => exact HC0.out); (case side3 => exact U (Kd.C_below HR2.out HB.out)); (case side4 => exact HC2.out); rintro e w' ⟨rfl, ⟨nd, rfl⟩⟩))
      go_meet
      case rel => exact ⟨_, (true), sR, H', ⟨oR⟩, ⟨BU⟩⟩
    replace c6 := Bool.eq_false_iff.mpr c6; subst c6; replace H := ifF H; have H' := Aside0.mk H; clear H
    go_wp2_with (first | ((with_reducible refine gate_callee (f := 9) rfl ?_); refine goesK (some 14) Try.func9 #[.slice A0 l0.length c0, .slice A1 l1.length c1] ?_; (with_reducible refine (impl_ConicPoint.calls k _ _ l0 _ _ l1 false _ ?side1 ?side2 ?side3 ?side4 A5.out).mono ?_); (case side1 => exact U (Kd.C_below HR0.out HB.out)); (case side2 => exact HC0.out); (case side3 => exact U (Kd.C_below HR1.out HB.out)); (case side4 => exact HC1.out); rintro e w12 ⟨rfl, hb⟩; refine ⟨_, rfl, ?_⟩; replace HB := BS hb; (try clear hb)))
    go_meet
    case rel => exact ⟨_, (true), sR, H', ⟨oR⟩, ⟨BU⟩⟩
  case rest =>
    clear HC4; obtain ⟨kq, x26_3, rfl, HA, HJ3, HB⟩ := hcut; cases kq with
    | zero => exact absurd HA.out (by simp [impl_ConicOther.j0])
    | succ kj3 =>
      have H := HA.out; clear HA; simp only [impl_ConicOther.j0] at H
      by_cases c13 : x26_3 = true
      · subst c13
        replace H := ifT H; simp only [Option.some.injEq, Prod.mk.injEq] at H; obtain ⟨rfl, rfl⟩ := H
        go_wp2
        go_ret2
        exact ⟨_, eR, by first | exact Kd.R_nil _ _ _ _ _ | exact Kd.N_nil _ _ _ _ _ | exact Kd.V_nil _ _ _ _ _ | exact Kd.Q_nil _ _ _ _ _ | exact Kd.S_nil _ _ _ _ _, BU⟩
      replace c13 := Bool.eq_false_iff.mpr c13; subst c13; replace H := ifF H; obtain ⟨t467, A14, H⟩ := bnd H; obtain ⟨t468, A15, H⟩ := bnd H; obtain ⟨y469, hy469⟩ : ∃ y_ : List Int, y_ = (([] : List Int)) := ⟨_, rfl⟩; replace H : (impl_ConicOther.l0 kj3 l0 l1 l2 t467 t468 y469 (l1.length : Int) 0) = some (r1, r2) := rH hy469 H; have Ny469 := Aside0.mk hy469; clear hy469; have H' := Aside0.mk H; clear H
      go_wp2_with (first | ((with_reducible refine gate_callee (f := 43) rfl ?_); refine goesK (some 30) Try.func43 #[.slice A0 l0.length c0, .slice A2 l2.length c2, .slice A2 l2.length c2] ?_; (with_reducible refine (impl_pair.calls kj3 _ _ l0 _ _ l2 _ _ l2 t467 _ ?side1 ?side2 ?side3 ?side4 ?side5 ?side6 A14.out).mono ?_); (case side1 => exact U (Kd.C_below HR0.out HB.out)); (case side2 => exact HC0.out); (case side3 => exact U (Kd.C_below HR2.out HB.out)); (case side4 => exact HC2.out); (case side5 => exact U (Kd.C_below HR2.out HB.out)); (case side6 => exact HC2.out); rintro e w' ⟨rfl, ⟨nd, rfl⟩⟩; refine ⟨_, rfl, ?_⟩) | ((with_reducible refine gate_callee (f := 43) rfl ?_); refine goesK (some 34) Try.func43 #[.slice A0 l0.length c0, .slice A1 l1.length c1, .slice A2 l2.length c2] ?_; (with_reducible refine (impl_pair.calls kj3 _ _ l0 _ _ l1 _ _ l2 t468 _ ?side1 ?side2 ?side3 ?side4 ?side5 ?side6 A15.out).mono ?_); (case side1 => exact U (Kd.C_below HR0.out BU)); (case side2 => exact HC0.out); (case side3 => exact U (Kd.C_below HR1.out BU)); (case side4 => exact HC1.out); (case side5 => exact U (Kd.C_below HR2.out BU)); (case side6 => exact HC2.out); rintro e w' ⟨rfl, ⟨nd, rfl⟩⟩; refine ⟨_, rfl, ?_⟩) | ((with_reducible refine gate_dst (N := 35) rfl ?_); refine Kd.R_lit (Kd.int .i64) _ 3 ?hg (N := 35) ?hd (xs := ([] : List Int)) (inner := []) (ok := fun _ => True) (okp := fun _ => True) ?hr ?hp (fun _ hk => hk) trivial (Below.refl _ _) (Nat.le_refl _) (by simp) ?_; (case hd => rfl); (case hg => rfl); (case hr => first | (go_simp; done) | (go_simp; rfl)); (case hp => exact (Reps.none _ _)); intro v470 w16 ho17 hb hg_ hnew_; clear hg_ hnew_; (first | rw [← Ny469.out] at ho17 | (simp only [Int.reduceToNat] at ho17; rw [← Ny469.out] at ho17)); have HO471 := Aside0.mk (Kd.R_lower ho17 (below_size BU)); replace HB := BS hb; clear hb ho17))
      go_loopg [10, 38] kj3 (fun kq v10 v38 w' => ∃ (x10_2 : List Int) (x38_2 : Int), v38 = .int .i64 x38_2 ∧ Aside0 (impl_ConicOther.l0 kq l0 l1 l2 t467 t468 x10_2 (l1.length : Int) x38_2 = some (r1, r2)) ∧ Aside0 (kq ≤ kj3) ∧ Aside0 (Kd.R (Kd.int .i64) 3 w' w.heap.size (fun _ => True) v10 x10_2) ∧ Aside0 (Below w.heap.size w w'))
      case atStart => exact ⟨(y469), (0), sR, H', ⟨Nat.le_refl _⟩, ⟨U HO471.out⟩, ⟨BU⟩⟩
      case round =>
        clear H'; (try clear c1); (try clear c2); (try clear c13); obtain ⟨x10_2, x38_2, rfl, HA, HK2, HO_10, HB⟩ := hrel; cases gk with
        | zero => exact absurd HA.out (by simp [impl_ConicOther.l0])
        | succ k2 =>
          have H := HA.out; clear HA; simp only [impl_ConicOther.l0] at H
          by_cases c18 : x38_2 < (l1.length : Int)
          · rw [if_pos c18] at H
            have c18b0 : decide (x38_2 < (l1.length : Int)) = true := decide_eq_true c18; clear c18; obtain ⟨c19, H⟩ := ifN H; have c19b0 : decide (0 ≤ x38_2) = true := decide_eq_true c19; clear c19; obtain ⟨c20, H⟩ := ifN H; have c20b0 : decide (x38_2 < (l1.length : Int)) = true := decide_eq_true c20; clear c20; obtain ⟨c21, H⟩ := ifN H; have c21b0 : decide (x38_2 < (l2.length : Int)) = true := decide_eq_true c21; clear c21; obtain ⟨c22, H⟩ := ifN H; have LMc22 := Aside0.mk c22; clear c22; obtain ⟨y474, hy474⟩ : ∃ y_ : List Int, y_ = (x10_2 ++ [wrap64 ((wrap64 (t467 * (rd l1 x38_2))) - (wrap64 ((wrap64 (2 * t468)) * (rd l2 x38_2))))]) := ⟨_, rfl⟩; replace H : (impl_ConicOther.l0 k2 l0 l1 l2 t467 t468 y474 (l1.length : Int) (wrap64 (x38_2 + 1))) = some (r1, r2) := rH hy474 H; have Ny474 := Aside0.mk hy474; clear hy474; have H' := Aside0.mk H; clear H
            try go_wp2
            replace HO_10 := Aside0.mk (Kd.R_drew HO_10.out); replace HB := Aside0.mk (below_drew1 HB.out); have p472 : 0 ≤ (x38_2 : Int) := oD; have q472 : x38_2 < (l1.length : Int) := oD; obtain ⟨ad472, e472, hx472_0⟩ := Kd.at_int HR1.out x38_2 p472 q472; have hw472_0 := hx472_0; cases e472; replace hx472_0 := (HB.out.cell (World.block_lt_of_cell? w _ hx472_0)).trans hx472_0; replace p472 := eq_true p472; replace q472 := eq_true q472; have p473 : 0 ≤ (x38_2 : Int) := oD; have q473 : x38_2 < (l2.length : Int) := oD; obtain ⟨ad473, e473, hx473_0⟩ := Kd.at_int HR2.out x38_2 p473 q473; have hw473_0 := hx473_0; cases e473; replace hx473_0 := (HB.out.cell (World.block_lt_of_cell? w _ hx473_0)).trans hx473_0; replace p473 := eq_true p473; replace q473 := eq_true q473
            refine start_ (n := 18) (S := fun w' => w'.cell? (ad472.add (x38_2).toNat) = some (.int .i64 (rd l1 x38_2)) ∧ w'.cell? (ad473.add (x38_2).toNat) = some (.int .i64 (rd l2 x38_2))) (ds := []) #[false, false, false, false, false, false, false, false, false, false, false, false, false, false, false, false, false, false] (by kernel_rfl) rfl rfl ⟨((HB.out.cell (World.block_lt_of_cell? w _ hw472_0)).trans hw472_0), ((HB.out.cell (World.block_lt_of_cell? w _ hw473_0)).trans hw473_0)⟩ (fun hHeld => ?_); refine with_tabW impl_ConicOther.tab8 impl_ConicOther.bits8 (fun HT_ HW_ => ?_)
            generalize wr.drew = w23 at HO_10 HB hx472_0 hx473_0 hHeld ⊢
            refine pure_ (i := 0) (N := some 41) (v := ?_) (a' := ?_) #[true, false, false, false, false, false, false, false, false, false, false, false, false, false, false, false, false, false] rfl rfl (any_of HT_.out (by kernel_rfl)) (fun _ _ _ h => h) (Or.inl ⟨by rfl, ?_⟩) ?_ ?_
            rotate_left
            · intro w'
              go_simp
              with_reducible rfl
            rotate_left
            · simp only [Act.put, List.setIfInBounds_toArray, List.set_cons_zero, List.set_cons_succ, i64_w, i32_w]
              rfl
            refine pure_ (i := 1) (N := some 42) (v := ?_) (a' := ?_) #[true, true, false, false, false, false, false, false, false, false, false, false, false, false, false, false, false, false] rfl rfl (any_of HT_.out (by kernel_rfl)) (fun _ _ _ h => h) (Or.inl ⟨by rfl, ?_⟩) ?_ ?_
            rotate_left
            · intro w'
              go_simp
              with_reducible rfl
            rotate_left
            · simp only [Act.put, List.setIfInBounds_toArray, List.set_cons_zero, List.set_cons_succ, i64_w, i32_w]
              rfl
            refine pure_ (i := 2) (N := some 43) (v := ?_) (a' := ?_) #[true, true, true, false, false, false, false, false, false, false, false, false, false, false, false, false, false, false] rfl rfl (any_of HT_.out (by kernel_rfl)) (fun _ _ _ h => h) (Or.inl ⟨by rfl, ?_⟩) ?_ ?_
            rotate_left
            · intro w'
              go_simp
              with_reducible rfl
            rotate_left
            · simp only [Act.put, List.setIfInBounds_toArray, List.set_cons_zero, List.set_cons_succ, i64_w, i32_w]
              rfl
            refine pure_ (i := 3) (N := some 44) (v := ?_) (a' := ?_) #[true, true, true, true, false, false, false, false, false, false, false, false, false, false, false, false, false, false] rfl rfl (any_of HT_.out (by kernel_rfl)) (fun _ _ _ h => h) (Or.inl ⟨by rfl, ?_⟩) ?_ ?_
            rotate_left
            · intro w'
              go_simp
              with_reducible rfl
            rotate_left
            · simp only [Act.put, List.setIfInBounds_toArray, List.set_cons_zero, List.set_cons_succ, i64_w, i32_w]
              rfl
            refine pure_ (i := 4) (N := some 45) (v := ?_) (a' := ?_) #[true, true, true, true, true, false, false, false, false, false, false, false, false, false, false, false, false, false] rfl rfl (any_of HT_.out (by kernel_rfl)) (fun _ _ _ h => h) (Or.inl ⟨by rfl, ?_⟩) ?_ ?_
            rotate_left
            · intro w'
              go_simp
              with_reducible rfl
            rotate_left
            · simp only [Act.put, List.setIfInBounds_toArray, List.set_cons_zero, List.set_cons_succ, i64_w, i32_w]
              rfl
            refine pure_ (i := 7) (N := some 48) (v := ?_) (a' := ?_) #[true, true, true, true, true, false, false, true, false, false, false, false, false, false, false, false, false, false] rfl rfl (any_of HT_.out (by kernel_rfl)) (fun _ _ _ h => h) (Or.inl ⟨by rfl, ?_⟩) ?_ ?_
            rotate_left
            · intro w'
              go_simp
              with_reducible rfl
            rotate_left
            · simp only [Act.put, List.setIfInBounds_toArray, List.set_cons_zero, List.set_cons_succ, i64_w, i32_w]
              rfl
            refine pure_ (i := 8) (N := some 49) (v := ?_) (a' := ?_) #[true, true, true, true, true, false, false, true, true, false, false, false, false, false, false, false, false, false] rfl rfl (any_of HT_.out (by kernel_rfl)) (fun _ _ _ h => h) (Or.inl ⟨by rfl, ?_⟩) ?_ ?_
            rotate_left
            · intro w'
              go_simp
              with_reducible rfl
            rotate_left
            · simp only [Act.put, List.setIfInBounds_toArray, List.set_cons_zero, List.set_cons_succ, i64_w, i32_w]
              rfl
            refine pure_ (i := 9) (N := some 50) (v := ?_) (a' := ?_) #[true, true, true, true, true, false, false, true, true, true, false, false, false, false, false, false, false, false] rfl rfl (any_of HT_.out (by kernel_rfl)) (fun _ _ _ h => h) (Or.inl ⟨by rfl, ?_⟩) ?_ ?_
            rotate_left
            · intro w'
              go_simp
              with_reducible rfl
            rotate_left
            · simp only [Act.put, List.setIfInBounds_toArray, List.set_cons_zero, List.set_cons_succ, i64_w, i32_w]
              rfl
            refine pure_ (i := 10) (N := some 51) (v := ?_) (a' := ?_) #[true, true, true, true, true, false, false, true, true, true, true, false, false, false, false, false, false, false] rfl rfl (any_of HT_.out (by kernel_rfl)) (fun _ _ _ h => h) (Or.inl ⟨by rfl, ?_⟩) ?_ ?_
            rotate_left
            · intro w'
              go_simp
              with_reducible rfl
            rotate_left
            · simp only [Act.put, List.setIfInBounds_toArray, List.set_cons_zero, List.set_cons_succ, i64_w, i32_w]
              rfl
            refine pure_ (i := 11) (N := some 52) (v := ?_) (a' := ?_) #[true, true, true, true, true, false, false, true, true, true, true, true, false, false, false, false, false, false] rfl rfl (any_of HT_.out (by kernel_rfl)) (fun _ _ _ h => h) (Or.inl ⟨by rfl, ?_⟩) ?_ ?_
            rotate_left
            · intro w'
              go_simp
              with_reducible rfl
            rotate_left
            · simp only [Act.put, List.setIfInBounds_toArray, List.set_cons_zero, List.set_cons_succ, i64_w, i32_w]
              rfl
            refine take_ (i := 5) (N := some 46) (v := ?_) (a' := ?_) #[true, true, true, true, true, true, false, true, true, true, true, true, false, false, false, false, false, false] rfl rfl (take_ofW HT_.out HW_.out (by kernel_rfl)) (fun _ _ _ h => h) (Or.inl ⟨by rfl, ?_⟩) hHeld ?_ ?_
            rotate_left
            · rintro w' ⟨s0, s1⟩
              go_simp
              with_reducible rfl
            rotate_left
            · simp only [Act.put, List.setIfInBounds_toArray, List.set_cons_zero, List.set_cons_succ, i64_w, i32_w]
              rfl
            refine pure_ (i := 6) (N := some 47) (v := ?_) (a' := ?_) #[true, true, true, true, true, true, true, true, true, true, true, true, false, false, false, false, false, false] rfl rfl (any_of HT_.out (by kernel_rfl)) (fun _ _ _ h => h) (Or.inl ⟨by rfl, ?_⟩) ?_ ?_
            rotate_left
            · intro w'
              go_simp
              with_reducible rfl
            rotate_left
            · simp only [Act.put, List.setIfInBounds_toArray, List.set_cons_zero, List.set_cons_succ, i64_w, i32_w]
              rfl
            refine take_ (i := 12) (N := some 53) (v := ?_) (a' := ?_) #[true, true, true, true, true, true, true, true, true, true, true, true, true, false, false, false, false, false] rfl rfl (take_ofW HT_.out HW_.out (by kernel_rfl)) (fun _ _ _ h => h) (Or.inl ⟨by rfl, ?_⟩) hHeld ?_ ?_
            rotate_left
            · rintro w' ⟨s0, s1⟩
              go_simp
              with_reducible rfl
            rotate_left
            · simp only [Act.put, List.setIfInBounds_toArray, List.set_cons_zero, List.set_cons_succ, i64_w, i32_w]
              rfl
            refine pure_ (i := 13) (N := some 54) (v := ?_) (a' := ?_) #[true, true, true, true, true, true, true, true, true, true, true, true, true, true, false, false, false, false] rfl rfl (any_of HT_.out (by kernel_rfl)) (fun _ _ _ h => h) (Or.inl ⟨by rfl, ?_⟩) ?_ ?_
            rotate_left
            · intro w'
              go_simp
              with_reducible rfl
            rotate_left
            · simp only [Act.put, List.setIfInBounds_toArray, List.set_cons_zero, List.set_cons_succ, i64_w, i32_w]
              rfl
            refine pure_ (i := 14) (N := some 55) (v := ?_) (a' := ?_) #[true, true, true, true, true, true, true, true, true, true, true, true, true, true, true, false, false, false] rfl rfl (any_of HT_.out (by kernel_rfl)) (fun _ _ _ h => h) (Or.inl ⟨by rfl, ?_⟩) ?_ ?_
            rotate_left
            · intro w'
              go_simp
              with_reducible rfl
            rotate_left
            · simp only [Act.put, List.setIfInBounds_toArray, List.set_cons_zero, List.set_cons_succ, i64_w, i32_w]
              rfl
            refine one_ (i := 15) (N := some 56) #[true, true, true, true, true, true, true, true, true, true, true, true, true, true, true, true, false, false] rfl rfl (one_of HT_.out (by kernel_rfl)) (by decide) (fun K hK => ?_)
            refine value_ (w1 := ?_) (v := ?_) (by rfl) rfl ?_ ?_
            rotate_left 2
            · go_simp
              constructor
              · rfl
              rfl
            refine hK.out _ _ ⟨(World.cell?_alloc_lt _ _ _ (World.block_lt_of_cell? _ _ (((HB.out.cell (World.block_lt_of_cell? w _ hw472_0)).trans hw472_0)))).trans (((HB.out.cell (World.block_lt_of_cell? w _ hw472_0)).trans hw472_0)), (World.cell?_alloc_lt _ _ _ (World.block_lt_of_cell? _ _ (((HB.out.cell (World.block_lt_of_cell? w _ hw473_0)).trans hw473_0)))).trans (((HB.out.cell (World.block_lt_of_cell? w _ hw473_0)).trans hw473_0))⟩ (fun hHeld => ?_)
            clear hK K
            refine norm_ (a' := ?_) ?_ ?_
            rotate_left
            · show Act.put _ (some 56) _ = _
              simp only [Act.put, List.setIfInBounds_toArray, List.set_cons_zero, List.set_cons_succ, i64_w, i32_w]
              rfl
            refine one_ (i := 16) (N := some 57) #[true, true, true, true, true, true, true, true, true, true, true, true, true, true, true, true, true, false] rfl rfl (one_of HT_.out (by kernel_rfl)) (by decide) (fun K hK => ?_)
            refine Kd.R_append_step (Kd.int .i64) (w0 := w) w.heap.size (by rfl) (.tmp 41) (.tmp 56) 23 3 (.int .i64 0) 8 rfl Try.underlying23 info3 rfl (by decide) (by omega) u10 x10_2 (wrap64 ((wrap64 (t467 * (rd l1 x38_2))) - (wrap64 ((wrap64 (2 * t468)) * (rd l2 x38_2))))) [.int .i64 (wrap64 ((wrap64 (t467 * (rd l1 x38_2))) - (wrap64 ((wrap64 (2 * t468)) * (rd l2 x38_2)))))] (fun _ => True) (fun _ => False) rfl rfl ?aP (fun _ hk => hk.elim) ?aF ?aO ?aB ?aS ?aL ?_
            (case aP => exact rfl)
            (case aB => exact BU)
            (case aF => exact (fun _ _ => trivial))
            (case aO => exact (U HO_10.out))
            (case aS => exact (below_size BU))
            (case aL => have := LMc22.out; omega)
            intro v475 w24 ho hb hg hat; rw [← Ny474.out] at ho; have n0_ := Aside0.mk (hb); have n1_ := Aside0.mk (ho); (try clear HB); clear HO_10; have HB := n0_; have HO476 := n1_; clear n0_ n1_ ho hb hg hat
            refine hK.out _ _ ⟨((HB.out.cell (World.block_lt_of_cell? w _ hw472_0)).trans hw472_0), ((HB.out.cell (World.block_lt_of_cell? w _ hw473_0)).trans hw473_0)⟩ (fun hHeld => ?_)
            clear hK K
            refine norm_ (a' := ?_) ?_ ?_
            rotate_left
            · show Act.put _ (some 57) _ = _
              simp only [Act.put, List.setIfInBounds_toArray, List.set_cons_zero, List.set_cons_succ, i64_w, i32_w]
              rfl
            refine pure_ (i := 17) (N := some 10) (v := ?_) (a' := ?_) #[true, true, true, true, true, true, true, true, true, true, true, true, true, true, true, true, true, true] rfl rfl (any_of HT_.out (by kernel_rfl)) (fun _ _ _ h => h) (Or.inl ⟨by rfl, ?_⟩) ?_ ?_
            rotate_left
            · intro w'
              go_simp
              with_reducible rfl
            rotate_left
            · simp only [Act.put, List.setIfInBounds_toArray, List.set_cons_zero, List.set_cons_succ, i64_w, i32_w]
              rfl
            refine done_ (done_of HT_.out (by kernel_rfl)) ?_
            try go_wp2
            go_roundg k2
            case measure => have := HJ3.out; have := HK2.out; omega
            case rel => exact ⟨(y474), (wrap64 (x38_2 + 1)), sR, H', ⟨by have := HJ3.out; have := HK2.out; omega⟩, ⟨U HO476.out⟩, ⟨BU⟩⟩
          rw [if_neg c18] at H; have c18b0 : decide (x38_2 < (l1.length : Int)) = false := decide_eq_false c18; clear c18; obtain ⟨t477, A25, H⟩ := bnd H; obtain ⟨t480, A26, H⟩ := bnd H
          by_cases c27 : t480 = true
          · subst c27
            replace H := ifT H; simp only [Option.some.injEq, Prod.mk.injEq] at H; obtain ⟨rfl, rfl⟩ := H; obtain ⟨Ao28, co28, eo28⟩ := Kd.R_slice HO_10.out; subst eo28
            go_wp2_with (first | ((with_reducible refine gate_callee (f := 33) rfl ?_); refine goesK (some 60) Try.func33 #[.slice Ao28 x10_2.length co28] ?_; (with_reducible refine (impl_plain.calls k2 _ _ x10_2 t477 _ ?side1 ?side2 A25.out).mono ?_); (case side1 => exact U ((Kd.R_reads' HO_10.out).2.2)); (case side2 => exact (Kd.R_reads' HO_10.out).2.1); rintro e w29 ⟨v478, rfl, ho0, hb⟩; refine ⟨_, rfl, ?_⟩; have HO479 := Aside0.mk (Kd.R_lower (Kd.R_new' ho0 (Kd.R_lt (U HO_10.out))) (below_size BU)); replace HO_10 := Aside0.mk (Kd.R_elder' (U HO_10.out) (Kd.R_base ho0) hb); replace HB := BS hb; (try clear hb); (try clear ho0); obtain ⟨Ao30, co30, eo30⟩ := Kd.R_slice HO479.out; subst eo30) | ((with_reducible refine gate_callee (f := 30) rfl ?_); refine goesK (some 63) Try.func30 #[.slice A0 l0.length c0, .slice Ao30 t477.length co30, .int .i64 1000000] ?_; (with_reducible refine (impl_vectorOk.calls k2 _ _ l0 _ _ t477 1000000 true _ ?side1 ?side2 ?side3 ?side4 A26.out).mono ?_); (case side1 => exact U (Kd.C_below HR0.out HB.out)); (case side2 => exact HC0.out); (case side3 => exact U ((Kd.R_reads' HO479.out).2.2)); (case side4 => exact (Kd.R_reads' HO479.out).2.1); rintro e w' ⟨rfl, ⟨nd, rfl⟩⟩; refine ⟨_, rfl, ?_⟩))
            go_ret2
            exact ⟨_, eR, Kd.RM HO479.out (fun _ hk => trivial), BU⟩
          replace c27 := Bool.eq_false_iff.mpr c27; subst c27; replace H := ifF H; simp only [Option.some.injEq, Prod.mk.injEq] at H; obtain ⟨rfl, rfl⟩ := H; obtain ⟨Ao31, co31, eo31⟩ := Kd.R_slice HO_10.out; subst eo31
          go_wp2_with (first | ((with_reducible refine gate_callee (f := 33) rfl ?_); refine goesK (some 60) Try.func33 #[.slice Ao31 x10_2.length co31] ?_; (with_reducible refine (impl_plain.calls k2 _ _ x10_2 t477 _ ?side1 ?side2 A25.out).mono ?_); (case side1 => exact U ((Kd.R_reads' HO_10.out).2.2)); (case side2 => exact (Kd.R_reads' HO_10.out).2.1); rintro e w32 ⟨v478, rfl, ho0, hb⟩; refine ⟨_, rfl, ?_⟩; have HO479 := Aside0.mk (Kd.R_lower (Kd.R_new' ho0 (Kd.R_lt (U HO_10.out))) (below_size BU)); replace HO_10 := Aside0.mk (Kd.R_elder' (U HO_10.out) (Kd.R_base ho0) hb); replace HB := BS hb; (try clear hb); (try clear ho0); obtain ⟨Ao33, co33, eo33⟩ := Kd.R_slice HO479.out; subst eo33) | ((with_reducible refine gate_callee (f := 30) rfl ?_); refine goesK (some 63) Try.func30 #[.slice A0 l0.length c0, .slice Ao33 t477.length co33, .int .i64 1000000] ?_; (with_reducible refine (impl_vectorOk.calls k2 _ _ l0 _ _ t477 1000000 false _ ?side1 ?side2 ?side3 ?side4 A26.out).mono ?_); (case side1 => exact U (Kd.C_below HR0.out HB.out)); (case side2 => exact HC0.out); (case side3 => exact U ((Kd.R_reads' HO479.out).2.2)); (case side4 => exact (Kd.R_reads' HO479.out).2.1); rintro e w' ⟨rfl, ⟨nd, rfl⟩⟩; refine ⟨_, rfl, ?_⟩))
          go_ret2
          exact ⟨_, eR, by first | exact Kd.R_nil _ _ _ _ _ | exact Kd.N_nil _ _ _ _ _ | exact Kd.V_nil _ _ _ _ _ | exact Kd.Q_nil _ _ _ _ _ | exact Kd.S_nil _ _ _ _ _, BU⟩

/-! ### impl_headed: function 40 -/
def impl_headed.f (k : Nat) (l0 : List Int) (a1 : Int) (a2 : Int) : Option (List Int) := (impl_axes.f k l0).bind fun bt481 => (if 3 ≤ 35184372088832 then ((some (List.replicate 3 0 : List Int)).bind fun y484 => (if 0 ≤ bt481.2.1 then (if bt481.2.1 < (y484.length : Int) then (if 0 ≤ bt481.2.2 then (if bt481.2.2 < (y484.length : Int) then (some ((y484.set (bt481.2.1 : Int).toNat a1).set (bt481.2.2 : Int).toNat a2)) else (none)) else (none)) else (none)) else (none))) else (none))
theorem impl_headed.mono : ∀ a0 a1 a2 k, LeO (impl_headed.f k a0 a1 a2) (impl_headed.f (k + 1) a0 a1 a2) := by
  intro a0 a1 a2 k
  unfold impl_headed.f
  repeat' first
      | (with_reducible exact impl_axes.mono _ _)
      | (with_reducible exact LeO.refl _)
      | (with_reducible exact LeO.none _)
      | (with_reducible refine LeO.ite ?_ ?_)
      | (with_reducible refine LeO.bind ?_ (fun _ => ?_))
      | exact impl_axes.mono _ _
      | exact LeO.none _
      | refine LeO.ite ?_ ?_
      | refine LeO.bind ?_ (fun _ => ?_)
set_option maxHeartbeats 8000000 in
set_option maxRecDepth 100000 in
theorem impl_headed.calls (k : Nat) (A0 : Option Addr) (c0 : Nat) (l0 : List Int) (a1 : Int) (a2 : Int) (r : List Int) (w : World) (hr0 : Kd.C (Kd.int .i64) w A0 l0.length l0) (hc0 : l0.length ≤ c0) (h : impl_headed.f k l0 a1 a2 = some r) :
    Calls Try.prog 40 #[.slice A0 l0.length c0, .int .i64 a1, .int .i64 a2] w fun e w' => ∃ v0_ : Value, e = .returned (v0_) ∧ Kd.R (Kd.int .i64) 3 w' w.heap.size (fun _ => True) v0_ r ∧ Below w.heap.size w w' := by
  have HR0 := Aside0.mk hr0; have HC0 := Aside0.mk hc0; clear hr0 hc0; have HB := Aside0.mk (Below.refl w.heap.size w); unfold impl_headed.f at h; have H := h; clear h; obtain ⟨⟨t481, t482, t483⟩, A4, H⟩ := bnd H
  replace H : (if 3 ≤ 35184372088832 then ((some (List.replicate 3 0 : List Int)).bind fun y484 => (if 0 ≤ t482 then (if t482 < (y484.length : Int) then (if 0 ≤ t483 then (if t483 < (y484.length : Int) then (some ((y484.set (t482 : Int).toNat a1).set (t483 : Int).toNat a2)) else (none)) else (none)) else (none)) else (none))) else (none)) = some r := H
  obtain ⟨c5, H⟩ := ifN H; have c5b0 := eq_true c5; have c5b1 : decide (3 ≤ 35184372088832) = true := decide_eq_true c5; clear c5; obtain ⟨y484, hy484⟩ : ∃ y_ : List Int, y_ = (List.replicate 3 0) := ⟨_, rfl⟩; replace H : (if 0 ≤ t482 then (if t482 < (y484.length : Int) then (if 0 ≤ t483 then (if t483 < (y484.length : Int) then (some ((y484.set (t482 : Int).toNat a1).set (t483 : Int).toNat a2)) else (none)) else (none)) else (none)) else (none)) = some r := rH hy484 H; have Ny484 := Aside0.mk hy484; clear hy484; obtain ⟨c6, H⟩ := ifN H; have c6b0 : decide (0 ≤ t482) = true := decide_eq_true c6; clear c6; obtain ⟨c7, H⟩ := ifN H; have c7b0 : decide (t482 < (y484.length : Int)) = true := decide_eq_true c7; clear c7; obtain ⟨y487, hy487⟩ : ∃ y_ : List Int, y_ = (y484.set (t482 : Int).toNat a1) := ⟨_, rfl⟩; replace H : (if 0 ≤ t483 then (if t483 < (y484.length : Int) then (some (y487.set (t483 : Int).toNat a2)) else (none)) else (none)) = some r := rH hy487 H; have Ny487 := Aside0.mk hy487; clear hy487; obtain ⟨c9, H⟩ := ifN H; have c9b0 : decide (0 ≤ t483) = true := decide_eq_true c9; clear c9; obtain ⟨c10, H⟩ := ifN H; have c10b0 : decide (t483 < (y484.length : Int)) = true := decide_eq_true c10; clear c10; obtain ⟨y488, hy488⟩ : ∃ y_ : List Int, y_ = (y487.set (t483 : Int).toNat a2) := ⟨_, rfl⟩; replace H : (some y488) = some r := rH hy488 H; have Ny488 := Aside0.mk hy488; clear hy488; obtain rfl := Option.some.inj H; go_enter Try.func40, Try.ntmps40
  go_wp2_with (first | ((with_reducible refine gate_callee (f := 37) rfl ?_); refine goesK (some 13) Try.func37 #[.slice A0 l0.length c0] ?_; (with_reducible refine (impl_axes.calls k _ _ l0 t481 t482 t483 _ ?side1 ?side2 A4.out).mono ?_); (case side1 => exact U HR0.out); (case side2 => exact HC0.out); rintro e w' ⟨rfl, ⟨nd, rfl⟩⟩; refine ⟨_, rfl, ?_⟩) | ((with_reducible refine gate_dst (N := 17) rfl ?_); refine Kd.R_make (Kd.int .i64) _ 3 rfl (N := 17) rfl 23 _ _ rfl 3 rfl rfl Try.underlying23 (.int .i64 0) 8 info3 rfl (by decide) (by omega) 0 (ok := fun _ => True) (okp := fun _ => True) rfl (fun _ hk => hk) trivial (by omega) (by omega) (Below.refl _ _) (Nat.le_refl _) ?_; intro v485 w12 ho13 hb hg_ hnew_; clear hg_ hnew_; (first | rw [← Ny484.out] at ho13 | (simp only [Int.reduceToNat] at ho13; rw [← Ny484.out] at ho13)); have HO486 := Aside0.mk (Kd.R_lower ho13 (below_size BU)); replace HB := BS hb; clear hb ho13; have p8 : 0 ≤ (t482 : Int) := oD; have q8 : (t482 : Int) < ((y484.length : Int) : Int) := oD; obtain ⟨go8, co8, eo8, gb8, gl8, cl8, HG8⟩ := Kd.R_form HO486.out (by omega); (first | cases eo8 | (injection eo8 with ea_ en_ ec_; (first | subst ea_ | (injection ea_ with ea_; subst ea_)); subst ec_; clear en_)); have GB8 := Aside0.mk gb8; have GG8 := Aside0.mk HG8; clear gb8 gl8 HG8; obtain ⟨hx8_0, hf8_0⟩ := Kd.R_celln 0 HO486.out (t482 : Int) p8 q8; replace p8 := eq_true p8; replace q8 := eq_true q8; obtain ⟨hy14_, hz14_⟩ := Kd.R_celln 0 HO486.out (t482 : Int) (oD) (oD); have HP14 := Kd.R_putg HO486.out (t482 : Int) a1) | ((with_reducible refine gate_store (t := 3) (p := 24) rfl ?_); refine store_event (t := 3) (p := 24) (v := ?vo_w15) (w1 := (w12.setCell ⟨go8, (t482 : Int).toNat, none⟩ (.int .i64 a1))) ?hg ?ho ?hn ?hr ?_; (case ho => rfl); (case hg => rfl); (case hn => rfl); (case hr => first | (go_simp; done) | (go_simp; rfl)); intro w15 hw; have hg : w12.grownBy w15 (some go8) := (by rw [hw]; exact HP14.2); have hp_ : Kd.R (Kd.int .i64) 3 w15 w.heap.size (fun _ => True) (.slice (some ⟨go8, 0, none⟩) y484.length co8) y487 := (by rw [hw, Ny487.out]; exact HP14.1); clear HP14; replace HO486 := Aside0.mk (hp_); replace HB := Aside0.mk ((by rw [hw]; exact below_set (HB.out) GB8.out : Below w.heap.size w w15)); clear hg hw hp_; have p11 : 0 ≤ (t483 : Int) := oD; have q11 : (t483 : Int) < ((y484.length : Int) : Int) := oD; obtain ⟨hx11_0, hf11_0⟩ := Kd.R_celln 0 HO486.out (t483 : Int) p11 q11; replace p11 := eq_true p11; replace q11 := eq_true q11; obtain ⟨hy16_, hz16_⟩ := Kd.R_celln 0 HO486.out (t483 : Int) (oD) (oD); have HP16 := Kd.R_putg HO486.out (t483 : Int) a2) | ((with_reducible refine gate_store (t := 3) (p := 25) rfl ?_); refine store_event (t := 3) (p := 25) (v := ?vo_w17) (w1 := (w15.setCell ⟨go8, (t483 : Int).toNat, none⟩ (.int .i64 a2))) ?hg ?ho ?hn ?hr ?_; (case ho => rfl); (case hg => rfl); (case hn => rfl); (case hr => first | (go_simp; done) | (go_simp; rfl)); intro w17 hw; have hg : w15.grownBy w17 (some go8) := (by rw [hw]; exact HP16.2); have hp_ : Kd.R (Kd.int .i64) 3 w17 w.heap.size (fun _ => True) (.slice (some ⟨go8, 0, none⟩) y484.length co8) y488 := (by rw [hw, Ny488.out]; exact HP16.1); clear HP16; replace HO486 := Aside0.mk (hp_); replace HB := Aside0.mk ((by rw [hw]; exact below_set (HB.out) GB8.out : Below w.heap.size w w17)); clear hg hw hp_))
  go_ret
  exact ⟨_, eR, U HO486.out, BU⟩

/-! ### impl_ConicAt: function 12 -/
def impl_ConicAt.j0 : Nat → List Int → List Int → Int → Int → Bool → Option (List Int × Bool)
  | 0, _, _, _, _, _ => none
  | k + 1, x0, x1, x2, x3, x31 => if x31 = true then (some (([] : List Int), false)) else ((impl_headed.f k x1 x2 x3).bind fun t494 => ((impl_ConicOther.f k x0 x1 t494).bind fun bt497 => (some (bt497.1, bt497.2))))
def impl_ConicAt.f (k : Nat) (l0 : List Int) (l1 : List Int) (a2 : Int) (a3 : Int) : Option (List Int × Bool) := (impl_ConicPoint.f k l0 l1).bind fun t489 => (if t489 = true then (if a2 = 0 then (if a3 = 0 then (impl_ConicAt.j0 k l0 l1 a2 a3 true) else ((impl_size.f a2).bind fun t490 => (if t490 > 20 then (impl_ConicAt.j0 k l0 l1 a2 a3 true) else ((impl_size.f a3).bind fun t491 => (impl_ConicAt.j0 k l0 l1 a2 a3 (decide (t491 > 20))))))) else ((impl_size.f a2).bind fun t492 => (if t492 > 20 then (impl_ConicAt.j0 k l0 l1 a2 a3 true) else ((impl_size.f a3).bind fun t493 => (impl_ConicAt.j0 k l0 l1 a2 a3 (decide (t493 > 20))))))) else (impl_ConicAt.j0 k l0 l1 a2 a3 true))
theorem impl_ConicAt.mono_l : ∀ k, (∀ y0 y1 y2 y3 y4, LeO (impl_ConicAt.j0 k y0 y1 y2 y3 y4) (impl_ConicAt.j0 (k + 1) y0 y1 y2 y3 y4))
  | 0 => fun _ _ _ _ _ r h => by simp [impl_ConicAt.j0] at h
  | k + 1 => by
    have ih0 := impl_ConicAt.mono_l k
    · intro y0 y1 y2 y3 y4
      unfold impl_ConicAt.j0
      repeat' first
      | (with_reducible exact ih0 _ _ _ _ _)
      | (with_reducible exact impl_ConicOther.mono _ _ _ _)
      | (with_reducible exact impl_ConicPoint.mono _ _ _)
      | (with_reducible exact impl_headed.mono _ _ _ _)
      | (with_reducible exact LeO.refl _)
      | (with_reducible exact LeO.none _)
      | (with_reducible refine LeO.ite ?_ ?_)
      | (with_reducible refine LeO.bind ?_ (fun _ => ?_))
      | exact ih0 _ _ _ _ _
      | exact impl_ConicOther.mono _ _ _ _
      | exact impl_ConicPoint.mono _ _ _
      | exact impl_headed.mono _ _ _ _
      | exact LeO.none _
      | refine LeO.ite ?_ ?_
      | refine LeO.bind ?_ (fun _ => ?_)
theorem impl_ConicAt.mono : ∀ a0 a1 a2 a3 k, LeO (impl_ConicAt.f k a0 a1 a2 a3) (impl_ConicAt.f (k + 1) a0 a1 a2 a3) := by
  intro a0 a1 a2 a3 k
  have ih0 := impl_ConicAt.mono_l k
  unfold impl_ConicAt.f
  repeat' first
      | (with_reducible exact ih0 _ _ _ _ _)
      | (with_reducible exact impl_ConicOther.mono _ _ _ _)
      | (with_reducible exact impl_ConicPoint.mono _ _ _)
      | (with_reducible exact impl_headed.mono _ _ _ _)
      | (with_reducible exact LeO.refl _)
      | (with_reducible exact LeO.none _)
      | (with_reducible refine LeO.ite ?_ ?_)
      | (with_reducible refine LeO.bind ?_ (fun _ => ?_))
      | exact ih0 _ _ _ _ _
      | exact impl_ConicOther.mono _ _ _ _
      | exact impl_ConicPoint.mono _ _ _
      | exact impl_headed.mono _ _ _ _
      | exact LeO.none _
      | refine LeO.ite ?_ ?_
      | refine LeO.bind ?_ (fun _ => ?_)
set_option maxHeartbeats 8000000 in
set_option maxRecDepth 100000 in
theorem impl_ConicAt.calls (k : Nat) (A0 : Option Addr) (c0 : Nat) (l0 : List Int) (A1 : Option Addr) (c1 : Nat) (l1 : List Int) (a2 : Int) (a3 : Int) (r1 : List Int) (r2 : Bool) (w : World) (hr0 : Kd.C (Kd.int .i64) w A0 l0.length l0) (hc0 : l0.length ≤ c0) (hr1 : Kd.C (Kd.int .i64) w A1 l1.length l1) (hc1 : l1.length ≤ c1) (h : impl_ConicAt.f k l0 l1 a2 a3 = some (r1, r2)) :
    Calls Try.prog 12 #[.slice A0 l0.length c0, .slice A1 l1.length c1, .int .i64 a2, .int .i64 a3] w fun e w' => ∃ v0_ : Value, e = .returned (.tuple #[v0_, .bool r2]) ∧ Kd.R (Kd.int .i64) 3 w' w.heap.size (fun _ => True) v0_ r1 ∧ Below w.heap.size w w' := by
  have HR0 := Aside0.mk hr0; have HC0 := Aside0.mk hc0; clear hr0 hc0; have HR1 := Aside0.mk hr1; have HC1 := Aside0.mk hc1; clear hr1 hc1; have HB := Aside0.mk (Below.refl w.heap.size w); unfold impl_ConicAt.f at h; have H := h; clear h; have HC5 := Aside0.mk H; clear H; go_enter Try.func12, Try.ntmps12
  go_upto_region 1 with (fail)
  go_cut [31] (fun v31 wc => ∃ (kq : Nat) (x31_4 : Bool), v31 = .bool x31_4 ∧ Aside0 (impl_ConicAt.j0 kq l0 l1 a2 a3 x31_4 = some (r1, r2)) ∧ Aside0 (kq ≤ k) ∧ Aside0 (Below w.heap.size w wc))
  case first =>
    have H := HC5.out; clear HC5; obtain ⟨t489, A6, H⟩ := bnd H
    by_cases c7 : t489 = true
    · subst c7
      replace H := ifT H
      by_cases c8 : a2 = 0
      · rw [if_pos c8] at H
        have c8b0 : (a2 == 0) = true := beq_iff_eq.mpr c8; have c8b1 : (a2 != 0) = false := bne_eq_false_iff_eq.mpr c8; clear c8
        (first | rw [c8b0] | (simp only [i64_w, i32_w]; rw [c8b0]) | skip)
        by_cases c9 : a3 = 0
        · rw [if_pos c9] at H
          have c9b0 : (a3 == 0) = true := beq_iff_eq.mpr c9; have c9b1 : (a3 != 0) = false := bne_eq_false_iff_eq.mpr c9; clear c9; have H' := Aside0.mk H; clear H
          go_wp2_with (first | ((with_reducible refine gate_callee (f := 9) rfl ?_); refine goesK (some 12) Try.func9 #[.slice A0 l0.length c0, .slice A1 l1.length c1] ?_; (with_reducible refine (impl_ConicPoint.calls k _ _ l0 _ _ l1 true _ ?side1 ?side2 ?side3 ?side4 A6.out).mono ?_); (case side1 => exact U (Kd.C_below HR0.out HB.out)); (case side2 => exact HC0.out); (case side3 => exact U (Kd.C_below HR1.out HB.out)); (case side4 => exact HC1.out); rintro e w10 ⟨rfl, hb⟩; refine ⟨_, rfl, ?_⟩; replace HB := BS hb; (try clear hb)))
          go_meet
          case rel => exact ⟨_, (true), sR, H', ⟨oR⟩, ⟨BU⟩⟩
        rw [if_neg c9] at H; have c9b0 : (a3 == 0) = false := beq_eq_false_iff_ne.mpr c9; have c9b1 : (a3 != 0) = true := bne_iff_ne.mpr c9; obtain ⟨t490, A11, H⟩ := bnd H
        by_cases c12 : t490 > 20
        · rw [if_pos c12] at H
          have c12b0 : decide (20 < t490) = true := decide_eq_true c12; clear c12; have H' := Aside0.mk H; clear H
          go_wp2_with (first | ((with_reducible refine gate_callee (f := 9) rfl ?_); refine goesK (some 12) Try.func9 #[.slice A0 l0.length c0, .slice A1 l1.length c1] ?_; (with_reducible refine (impl_ConicPoint.calls k _ _ l0 _ _ l1 true _ ?side1 ?side2 ?side3 ?side4 A6.out).mono ?_); (case side1 => exact U (Kd.C_below HR0.out HB.out)); (case side2 => exact HC0.out); (case side3 => exact U (Kd.C_below HR1.out HB.out)); (case side4 => exact HC1.out); rintro e w13 ⟨rfl, hb⟩; refine ⟨_, rfl, ?_⟩; replace HB := BS hb; (try clear hb)) | (go_at_call 39; (with_reducible refine (impl_size.calls a2 t490 _ A11.out).mono ?_); rintro e w14 ⟨rfl, hb⟩; replace HB := BS hb; (try clear hb)))
          go_meet
          case rel => exact ⟨_, (true), sR, H', ⟨oR⟩, ⟨BU⟩⟩
        rw [if_neg c12] at H; have c12b0 : decide (20 < t490) = false := decide_eq_false c12; clear c12; obtain ⟨t491, A15, H⟩ := bnd H; have H' := Aside0.mk H; clear H
        go_wp2_with (first | ((with_reducible refine gate_callee (f := 9) rfl ?_); refine goesK (some 12) Try.func9 #[.slice A0 l0.length c0, .slice A1 l1.length c1] ?_; (with_reducible refine (impl_ConicPoint.calls k _ _ l0 _ _ l1 true _ ?side1 ?side2 ?side3 ?side4 A6.out).mono ?_); (case side1 => exact U (Kd.C_below HR0.out HB.out)); (case side2 => exact HC0.out); (case side3 => exact U (Kd.C_below HR1.out HB.out)); (case side4 => exact HC1.out); rintro e w16 ⟨rfl, hb⟩; refine ⟨_, rfl, ?_⟩; replace HB := BS hb; (try clear hb)) | (go_at_call 39; (with_reducible refine (impl_size.calls a2 t490 _ A11.out).mono ?_); rintro e w17 ⟨rfl, hb⟩; replace HB := BS hb; (try clear hb)) | (go_at_call 39; (with_reducible refine (impl_size.calls a3 t491 _ A15.out).mono ?_); rintro e w18 ⟨rfl, hb⟩; replace HB := BS hb; (try clear hb)))
        go_meet
        case rel => exact ⟨_, (decide (t491 > 20)), sR, H', ⟨oR⟩, ⟨BU⟩⟩
      rw [if_neg c8] at H; have c8b0 : (a2 == 0) = false := beq_eq_false_iff_ne.mpr c8; have c8b1 : (a2 != 0) = true := bne_iff_ne.mpr c8
      (first | rw [c8b0] | (simp only [i64_w, i32_w]; rw [c8b0]) | skip)
      obtain ⟨t492, A19, H⟩ := bnd H
      by_cases c20 : t492 > 20
      · rw [if_pos c20] at H
        have c20b0 : decide (20 < t492) = true := decide_eq_true c20; clear c20; have H' := Aside0.mk H; clear H
        go_wp2_with (first | ((with_reducible refine gate_callee (f := 9) rfl ?_); refine goesK (some 12) Try.func9 #[.slice A0 l0.length c0, .slice A1 l1.length c1] ?_; (with_reducible refine (impl_ConicPoint.calls k _ _ l0 _ _ l1 true _ ?side1 ?side2 ?side3 ?side4 A6.out).mono ?_); (case side1 => exact U (Kd.C_below HR0.out HB.out)); (case side2 => exact HC0.out); (case side3 => exact U (Kd.C_below HR1.out HB.out)); (case side4 => exact HC1.out); rintro e w21 ⟨rfl, hb⟩; refine ⟨_, rfl, ?_⟩; replace HB := BS hb; (try clear hb)) | (go_at_call 39; (with_reducible refine (impl_size.calls a2 t492 _ A19.out).mono ?_); rintro e w22 ⟨rfl, hb⟩; replace HB := BS hb; (try clear hb)))
        go_meet
        case rel => exact ⟨_, (true), sR, H', ⟨oR⟩, ⟨BU⟩⟩
      rw [if_neg c20] at H; have c20b0 : decide (20 < t492) = false := decide_eq_false c20; clear c20; obtain ⟨t493, A23, H⟩ := bnd H; have H' := Aside0.mk H; clear H
      go_wp2_with (first | ((with_reducible refine gate_callee (f := 9) rfl ?_); refine goesK (some 12) Try.func9 #[.slice A0 l0.length c0, .slice A1 l1.length c1] ?_; (with_reducible refine (impl_ConicPoint.calls k _ _ l0 _ _ l1 true _ ?side1 ?side2 ?side3 ?side4 A6.out).mono ?_); (case side1 => exact U (Kd.C_below HR0.out HB.out)); (case side2 => exact HC0.out); (case side3 => exact U (Kd.C_below HR1.out HB.out)); (case side4 => exact HC1.out); rintro e w24 ⟨rfl, hb⟩; refine ⟨_, rfl, ?_⟩; replace HB := BS hb; (try clear hb)) | (go_at_call 39; (with_reducible refine (impl_size.calls a2 t492 _ A19.out).mono ?_); rintro e w25 ⟨rfl, hb⟩; replace HB := BS hb; (try clear hb)) | (go_at_call 39; (with_reducible refine (impl_size.calls a3 t493 _ A23.out).mono ?_); rintro e w26 ⟨rfl, hb⟩; replace HB := BS hb; (try clear hb)))
      go_meet
      case rel => exact ⟨_, (decide (t493 > 20)), sR, H', ⟨oR⟩, ⟨BU⟩⟩
    replace c7 := Bool.eq_false_iff.mpr c7; subst c7; replace H := ifF H; have H' := Aside0.mk H; clear H
    go_wp2_with (first | ((with_reducible refine gate_callee (f := 9) rfl ?_); refine goesK (some 12) Try.func9 #[.slice A0 l0.length c0, .slice A1 l1.length c1] ?_; (with_reducible refine (impl_ConicPoint.calls k _ _ l0 _ _ l1 false _ ?side1 ?side2 ?side3 ?side4 A6.out).mono ?_); (case side1 => exact U (Kd.C_below HR0.out HB.out)); (case side2 => exact HC0.out); (case side3 => exact U (Kd.C_below HR1.out HB.out)); (case side4 => exact HC1.out); rintro e w27 ⟨rfl, hb⟩; refine ⟨_, rfl, ?_⟩; replace HB := BS hb; (try clear hb)))
    go_meet
    case rel => exact ⟨_, (true), sR, H', ⟨oR⟩, ⟨BU⟩⟩
  case rest =>
    clear HC5; obtain ⟨kq, x31_4, rfl, HA, HJ4, HB⟩ := hcut; cases kq with
    | zero => exact absurd HA.out (by simp [impl_ConicAt.j0])
    | succ kj4 =>
      have H := HA.out; clear HA; simp only [impl_ConicAt.j0] at H
      by_cases c28 : x31_4 = true
      · subst c28
        replace H := ifT H; simp only [Option.some.injEq, Prod.mk.injEq] at H; obtain ⟨rfl, rfl⟩ := H
        go_wp2
        go_ret2
        exact ⟨_, eR, by first | exact Kd.R_nil _ _ _ _ _ | exact Kd.N_nil _ _ _ _ _ | exact Kd.V_nil _ _ _ _ _ | exact Kd.Q_nil _ _ _ _ _ | exact Kd.S_nil _ _ _ _ _, BU⟩
      replace c28 := Bool.eq_false_iff.mpr c28; subst c28; replace H := ifF H; obtain ⟨t494, A29, H⟩ := bnd H; obtain ⟨⟨t497, t498⟩, A30, H⟩ := bnd H; replace H : (some (t497, t498)) = some (r1, r2) := H; simp only [Option.some.injEq, Prod.mk.injEq] at H; obtain ⟨rfl, rfl⟩ := H
      go_wp2_with (first | ((with_reducible refine gate_callee (f := 40) rfl ?_); refine goesK (some 37) Try.func40 #[.slice A1 l1.length c1, .int .i64 a2, .int .i64 a3] ?_; (with_reducible refine (impl_headed.calls kj4 _ _ l1 a2 a3 t494 _ ?side1 ?side2 A29.out).mono ?_); (case side1 => exact U (Kd.C_below HR1.out HB.out)); (case side2 => exact HC1.out); rintro e w31 ⟨v495, rfl, ho0, hb⟩; refine ⟨_, rfl, ?_⟩; have HO496 := Aside0.mk (Kd.R_lower ho0 (below_size BU)); replace HB := BS hb; (try clear hb); (try clear ho0); obtain ⟨Ao32, co32, eo32⟩ := Kd.R_slice HO496.out; subst eo32) | ((with_reducible refine gate_callee (f := 17) rfl ?_); refine goesK (some 38) Try.func17 #[.slice A0 l0.length c0, .slice A1 l1.length c1, .slice Ao32 t494.length co32] ?_; (with_reducible refine (impl_ConicOther.calls kj4 _ _ l0 _ _ l1 _ _ t494 t497 t498 _ ?side1 ?side2 ?side3 ?side4 ?side5 ?side6 A30.out).mono ?_); (case side1 => exact U (Kd.C_below HR0.out HB.out)); (case side2 => exact HC0.out); (case side3 => exact U (Kd.C_below HR1.out HB.out)); (case side4 => exact HC1.out); (case side5 => exact U ((Kd.R_reads' HO496.out).2.2)); (case side6 => exact (Kd.R_reads' HO496.out).2.1); rintro e w33 ⟨v499, rfl, ho0, hb⟩; refine ⟨_, rfl, ?_⟩; have HO500 := Aside0.mk (Kd.R_lower (Kd.R_new' ho0 (Kd.R_lt (U HO496.out))) (below_size BU)); replace HO496 := Aside0.mk (Kd.R_elder' (U HO496.out) (Kd.R_base ho0) hb); replace HB := BS hb; (try clear hb); (try clear ho0)))
      go_ret2
      exact ⟨_, eR, Kd.RM HO500.out (fun _ hk => trivial), BU⟩

/-! ### laws_sizeOf: function 13 -/
def laws_sizeOf.f (a0 : Int) : Option (Int) := some (mx a0 (wrap64 (-a0)))
set_option maxHeartbeats 8000000 in
set_option maxRecDepth 100000 in
theorem laws_sizeOf.calls (a0 : Int) (r : Int) (w : World) (h : laws_sizeOf.f a0 = some r) :
    Calls Try.prog 13 #[.int .i64 a0] w fun e w' => e = .returned (.int .i64 r) ∧ Below w.heap.size w w' := by
  have HB := Aside0.mk (Below.refl w.heap.size w); unfold laws_sizeOf.f at h; have H := h; clear h; obtain ⟨ji2, hji2⟩ : ∃ j_ : Int, (mx a0 (wrap64 (-a0))) = j_ := ⟨_, rfl⟩
  replace H : (some ji2) = some r := by first | (rw [hji2] at H; exact H) | (simp only [hji2] at H ⊢; exact H)
  have hji2_ : (if a0 < (wrap64 (-a0)) then (wrap64 (-a0)) else a0) = ji2 := hji2; obtain rfl := Option.some.inj H; go_enter Try.func13, Try.ntmps13
  go_wp2
  go_ret
  exact ⟨by first | rfl | (simp [errW_none, errW_some] <;> rfl) | (simp only [← hji2]; first | rfl | (simp [errW_none, errW_some] <;> rfl)) | (simp [*, errW_none, errW_some] <;> rfl), BU⟩

/-! ### impl_ZeroPlain: function 14 -/
def impl_ZeroPlain.f (k : Nat) (l0 : List Int) (l1 : List Int) : Option (List Int × Bool) := (impl_ZeroIs.f k l0 l1).bind fun t501 => (if t501 = true then ((impl_plain.f k l1).bind fun t502 => (some (t502, true))) else (some (([] : List Int), false)))
theorem impl_ZeroPlain.mono : ∀ a0 a1 k, LeO (impl_ZeroPlain.f k a0 a1) (impl_ZeroPlain.f (k + 1) a0 a1) := by
  intro a0 a1 k
  unfold impl_ZeroPlain.f
  repeat' first
      | (with_reducible exact impl_ZeroIs.mono _ _ _)
      | (with_reducible exact impl_plain.mono _ _)
      | (with_reducible exact LeO.refl _)
      | (with_reducible exact LeO.none _)
      | (with_reducible refine LeO.ite ?_ ?_)
      | (with_reducible refine LeO.bind ?_ (fun _ => ?_))
      | exact impl_ZeroIs.mono _ _ _
      | exact impl_plain.mono _ _
      | exact LeO.none _
      | refine LeO.ite ?_ ?_
      | refine LeO.bind ?_ (fun _ => ?_)
set_option maxHeartbeats 8000000 in
set_option maxRecDepth 100000 in
theorem impl_ZeroPlain.calls (k : Nat) (A0 : Option Addr) (c0 : Nat) (l0 : List Int) (A1 : Option Addr) (c1 : Nat) (l1 : List Int) (r1 : List Int) (r2 : Bool) (w : World) (hr0 : Kd.C (Kd.int .i64) w A0 l0.length l0) (hc0 : l0.length ≤ c0) (hr1 : Kd.C (Kd.int .i64) w A1 l1.length l1) (hc1 : l1.length ≤ c1) (h : impl_ZeroPlain.f k l0 l1 = some (r1, r2)) :
    Calls Try.prog 14 #[.slice A0 l0.length c0, .slice A1 l1.length c1] w fun e w' => ∃ v0_ : Value, e = .returned (.tuple #[v0_, .bool r2]) ∧ Kd.R (Kd.int .i64) 3 w' w.heap.size (fun _ => True) v0_ r1 ∧ Below w.heap.size w w' := by
  have HR0 := Aside0.mk hr0; have HC0 := Aside0.mk hc0; clear hr0 hc0; have HR1 := Aside0.mk hr1; have HC1 := Aside0.mk hc1; clear hr1 hc1; have HB := Aside0.mk (Below.refl w.heap.size w); unfold impl_ZeroPlain.f at h; have H := h; clear h; obtain ⟨t501, A3, H⟩ := bnd H
  by_cases c4 : t501 = true
  · subst c4
    replace H := ifT H; obtain ⟨t502, A5, H⟩ := bnd H; simp only [Option.some.injEq, Prod.mk.injEq] at H; obtain ⟨rfl, rfl⟩ := H; go_enter Try.func14, Try.ntmps14
    go_wp2_with (first | ((with_reducible refine gate_callee (f := 31) rfl ?_); refine goesK (some 8) Try.func31 #[.slice A0 l0.length c0, .slice A1 l1.length c1] ?_; (with_reducible refine (impl_ZeroIs.calls k _ _ l0 _ _ l1 true _ ?side1 ?side2 ?side3 ?side4 A3.out).mono ?_); (case side1 => exact U HR0.out); (case side2 => exact HC0.out); (case side3 => exact U HR1.out); (case side4 => exact HC1.out); rintro e w6 ⟨rfl, hb⟩; refine ⟨_, rfl, ?_⟩; replace HB := BS hb; (try clear hb)) | ((with_reducible refine gate_callee (f := 33) rfl ?_); refine goesK (some 11) Try.func33 #[.slice A1 l1.length c1] ?_; (with_reducible refine (impl_plain.calls k _ _ l1 t502 _ ?side1 ?side2 A5.out).mono ?_); (case side1 => exact U (Kd.C_below HR1.out HB.out)); (case side2 => exact HC1.out); rintro e w7 ⟨v503, rfl, ho0, hb⟩; refine ⟨_, rfl, ?_⟩; have HO504 := Aside0.mk (Kd.R_lower ho0 (below_size BU)); replace HB := BS hb; (try clear hb); (try clear ho0)))
    go_ret2
    exact ⟨_, eR, U HO504.out, BU⟩
  replace c4 := Bool.eq_false_iff.mpr c4; subst c4; replace H := ifF H; simp only [Option.some.injEq, Prod.mk.injEq] at H; obtain ⟨rfl, rfl⟩ := H; go_enter Try.func14, Try.ntmps14
  go_wp2_with (first | ((with_reducible refine gate_callee (f := 31) rfl ?_); refine goesK (some 8) Try.func31 #[.slice A0 l0.length c0, .slice A1 l1.length c1] ?_; (with_reducible refine (impl_ZeroIs.calls k _ _ l0 _ _ l1 false _ ?side1 ?side2 ?side3 ?side4 A3.out).mono ?_); (case side1 => exact U HR0.out); (case side2 => exact HC0.out); (case side3 => exact U HR1.out); (case side4 => exact HC1.out); rintro e w8 ⟨rfl, hb⟩; refine ⟨_, rfl, ?_⟩; replace HB := BS hb; (try clear hb)))
  go_ret2
  exact ⟨_, eR, by first | exact Kd.R_nil _ _ _ _ _ | exact Kd.N_nil _ _ _ _ _ | exact Kd.V_nil _ _ _ _ _ | exact Kd.Q_nil _ _ _ _ _ | exact Kd.S_nil _ _ _ _ _, BU⟩

end Go.Proofs.Ytpaohkhmhdhibaa.PFnPoint
