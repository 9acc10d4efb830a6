-- Written by a program of this session (wip/print2.py): the functions that the law reaches, plain, and the walks.
import Derived.Test.YtnbeeogmaamgdaaPFnCarryx0
import Derived.Test.YtnbeeogmaamgdaaPFnCarryx1
import Derived.Test.YtnbeeogmaamgdaaPFnCarryx2
import Derived.Test.YtnbeeogmaamgdaaPFnCarryx3
namespace Go.Proofs.Ytnbeeogmaamgdaa.PFnCarry
open Go.RowKit Go.Proofs.YtnbeeogmaamgdaaW.PrintWords Go.Proofs.YtnbeeogmaamgdaaW.PrintLast Go.Proofs.YtnbeeogmaamgdaaW.PrintMore
attribute [local go_sem] max2_int min2_int max_two min_two max_three min_three max_four min_four   -- for this text's walks alone
set_option linter.unusedVariables false
set_option linter.unusedSimpArgs false

/-! ### impl_MoveOn: function 23 -/
mutual
def impl_MoveOn.j0 : Nat → List Int → Bool → List (List Int) → Int → Option (List Int × Int × Bool)
  | 0, _, _, _, _ => none
  | k + 1, x2, x26, x190000, x190001 => if x26 = true then (some (([] : List Int), 0, false)) else (impl_MoveOn.l0 k x2 (([] : List Int)) x190000 (x190000.length : Int) 0 x190000 x190001)
def impl_MoveOn.l0 : Nat → List Int → List Int → List (List Int) → Int → Int → List (List Int) → Int → Option (List Int × Int × Bool)
  | 0, _, _, _, _, _, _, _ => none
  | k + 1, x2, x9, x29, x30, x31, x190000, x190001 => if x31 < x30 then (if 0 ≤ x31 then (if x31 < (x29.length : Int) then (impl_MoveOn.l1 k x2 x9 (rd_L1 x29 x31) 0 x29 x30 x31 x2 (x2.length : Int) 0 x190000 x190001) else (none)) else (none)) else ((slices_Clone_int_int.f x9).bind fun t204 => ((some (([x190001] : List Int) : List Int)).bind fun y207 => (if t204.length + y207.length < 17592186044416 then ((impl_gcd.f k (t204 ++ y207)).bind fun t213 => (impl_MoveOn.l2 k x9 t213 (x9.length : Int) 0 x190000 x190001)) else (none))))
def impl_MoveOn.l1 : Nat → List Int → List Int → List Int → Int → List (List Int) → Int → Int → List Int → Int → Int → List (List Int) → Int → Option (List Int × Int × Bool)
  | 0, _, _, _, _, _, _, _, _, _, _, _, _ => none
  | k + 1, x2, x9, x11, x12, x29, x30, x31, x35, x36, x37, x190000, x190001 => if x37 < x36 then (if 0 ≤ x37 then (if x37 < (x35.length : Int) then (if x37 < (x11.length : Int) then (impl_MoveOn.l1 k x2 x9 x11 (wrap64 (x12 + (wrap64 ((rd x11 x37) * (rd x35 x37))))) x29 x30 x31 x35 x36 (wrap64 (x37 + 1)) x190000 x190001) else (none)) else (none)) else (none)) else ((some (([x12] : List Int) : List Int)).bind fun y198 => (if x9.length + y198.length < 17592186044416 then (impl_MoveOn.l0 k x2 (x9 ++ y198) x29 x30 (wrap64 (x31 + 1)) x190000 x190001) else (none)))
def impl_MoveOn.l2 : Nat → List Int → Int → Int → Int → List (List Int) → Int → Option (List Int × Int × Bool)
  | 0, _, _, _, _, _, _ => none
  | k + 1, x9, x15, x64, x65, x190000, x190001 => if x65 < x64 then (if 0 ≤ x65 then (if x65 < (x9.length : Int) then (if x15 = 0 then (none) else (impl_MoveOn.l2 k (x9.set (x65 : Int).toNat (wrap64 (Int.tdiv (rd x9 x65) x15))) x15 x64 (wrap64 (x65 + 1)) x190000 x190001)) else (none)) else (none)) else (if x15 = 0 then (none) else (some (x9, wrap64 (Int.tdiv x190001 x15), true)))
end
def impl_MoveOn.f (k : Nat) (l0 : List Int) (l1_0 : List (List Int)) (a1_1 : Int) (l2 : List Int) : Option (List Int × Int × Bool) := (impl_MoveValid.f k l0 l1_0 a1_1).bind fun t190 => (if t190 = true then ((impl_vectorOk.f k l0 l2 1000).bind fun t191 => (impl_MoveOn.j0 k l2 (!t191) l1_0 a1_1)) else (impl_MoveOn.j0 k l2 true l1_0 a1_1))
theorem impl_MoveOn.mono_l : ∀ k, (∀ y0 y1 y2 y3, LeO (impl_MoveOn.j0 k y0 y1 y2 y3) (impl_MoveOn.j0 (k + 1) y0 y1 y2 y3)) ∧ (∀ y0 y1 y2 y3 y4 y5 y6, LeO (impl_MoveOn.l0 k y0 y1 y2 y3 y4 y5 y6) (impl_MoveOn.l0 (k + 1) y0 y1 y2 y3 y4 y5 y6)) ∧ (∀ y0 y1 y2 y3 y4 y5 y6 y7 y8 y9 y10 y11, LeO (impl_MoveOn.l1 k y0 y1 y2 y3 y4 y5 y6 y7 y8 y9 y10 y11) (impl_MoveOn.l1 (k + 1) y0 y1 y2 y3 y4 y5 y6 y7 y8 y9 y10 y11)) ∧ (∀ y0 y1 y2 y3 y4 y5, LeO (impl_MoveOn.l2 k y0 y1 y2 y3 y4 y5) (impl_MoveOn.l2 (k + 1) y0 y1 y2 y3 y4 y5))
  | 0 => ⟨fun _ _ _ _ r h => by simp [impl_MoveOn.j0] at h, fun _ _ _ _ _ _ _ r h => by simp [impl_MoveOn.l0] at h, fun _ _ _ _ _ _ _ _ _ _ _ _ r h => by simp [impl_MoveOn.l1] at h, fun _ _ _ _ _ _ r h => by simp [impl_MoveOn.l2] at h⟩
  | k + 1 => by
    obtain ⟨ih0, ih1, ih2, ih3⟩ := impl_MoveOn.mono_l k
    refine ⟨?_, ?_, ?_, ?_⟩ <;> intros <;> (first | unfold impl_MoveOn.j0 | unfold impl_MoveOn.l0 | unfold impl_MoveOn.l1 | unfold impl_MoveOn.l2) <;> (repeat' first
      | (with_reducible exact ih0 _ _ _ _)
      | (with_reducible exact ih1 _ _ _ _ _ _ _)
      | (with_reducible exact ih2 _ _ _ _ _ _ _ _ _ _ _ _)
      | (with_reducible exact ih3 _ _ _ _ _ _)
      | (with_reducible exact impl_MoveValid.mono _ _ _ _)
      | (with_reducible exact impl_gcd.mono _ _)
      | (with_reducible exact impl_vectorOk.mono _ _ _ _)
      | (with_reducible exact LeO.refl _)
      | (with_reducible exact LeO.none _)
      | (with_reducible refine LeO.ite ?_ ?_)
      | (with_reducible refine LeO.bind ?_ (fun _ => ?_))
      | exact ih0 _ _ _ _
      | exact ih1 _ _ _ _ _ _ _
      | exact ih2 _ _ _ _ _ _ _ _ _ _ _ _
      | exact ih3 _ _ _ _ _ _
      | exact impl_MoveValid.mono _ _ _ _
      | exact impl_gcd.mono _ _
      | exact impl_vectorOk.mono _ _ _ _
      | exact LeO.none _
      | refine LeO.ite ?_ ?_
      | refine LeO.bind ?_ (fun _ => ?_))
theorem impl_MoveOn.mono : ∀ a0 a1 a2 a3 k, LeO (impl_MoveOn.f k a0 a1 a2 a3) (impl_MoveOn.f (k + 1) a0 a1 a2 a3) := by
  intro a0 a1 a2 a3 k
  obtain ⟨ih0, ih1, ih2, ih3⟩ := impl_MoveOn.mono_l k
  unfold impl_MoveOn.f
  repeat' first
      | (with_reducible exact ih0 _ _ _ _)
      | (with_reducible exact ih1 _ _ _ _ _ _ _)
      | (with_reducible exact ih2 _ _ _ _ _ _ _ _ _ _ _ _)
      | (with_reducible exact ih3 _ _ _ _ _ _)
      | (with_reducible exact impl_MoveValid.mono _ _ _ _)
      | (with_reducible exact impl_gcd.mono _ _)
      | (with_reducible exact impl_vectorOk.mono _ _ _ _)
      | (with_reducible exact LeO.refl _)
      | (with_reducible exact LeO.none _)
      | (with_reducible refine LeO.ite ?_ ?_)
      | (with_reducible refine LeO.bind ?_ (fun _ => ?_))
      | exact ih0 _ _ _ _
      | exact ih1 _ _ _ _ _ _ _
      | exact ih2 _ _ _ _ _ _ _ _ _ _ _ _
      | exact ih3 _ _ _ _ _ _
      | exact impl_MoveValid.mono _ _ _ _
      | exact impl_gcd.mono _ _
      | exact impl_vectorOk.mono _ _ _ _
      | exact LeO.none _
      | refine LeO.ite ?_ ?_
      | refine LeO.bind ?_ (fun _ => ?_)
def impl_MoveOn.T15 : Bool × List (List Nat × List Nat) := (true, [([], []), ([0], [0]), ([], []), ([2], [2]), ([3], [3]), ([1, 4, 1], [1, 4]), ([5, 5], [5]), ([6, 6, 0, 1, 2, 3, 4, 5, 6], [6])])
def impl_MoveOn.B15 : List Nat := [0, 1, 0, 4, 12, 31, 63, 127]
theorem impl_MoveOn.tab15 : rtab .any (opsOf Try.f23 15) = impl_MoveOn.T15 := by kernel_rfl
theorem impl_MoveOn.bits15 : waitsOk impl_MoveOn.T15.2 impl_MoveOn.B15 = true := by kernel_rfl
def impl_MoveOn.T21 : Bool × List (List Nat × List Nat) := (true, [([], []), ([], []), ([1], [1]), ([], []), ([2, 3], [2, 3]), ([0, 0], [0]), ([4, 5, 0, 1, 2, 3, 4, 5], [4]), ([6, 0, 1, 2, 3, 4, 5, 6], [])])
def impl_MoveOn.B21 : List Nat := [0, 0, 2, 0, 14, 1, 63, 127]
theorem impl_MoveOn.tab21 : rtab .any (opsOf Try.f23 21) = impl_MoveOn.T21 := by kernel_rfl
theorem impl_MoveOn.bits21 : waitsOk impl_MoveOn.T21.2 impl_MoveOn.B21 = true := by kernel_rfl
set_option maxHeartbeats 8000000 in
set_option maxRecDepth 100000 in
theorem impl_MoveOn.calls (k : Nat) (A0 : Option Addr) (c0 : Nat) (l0 : List Int) (A1_0 : Option Addr) (c1_0 : Nat) (l1_0 : List (List Int)) (a1_1 : Int) (A2 : Option Addr) (c2 : Nat) (l2 : List Int) (r1 : List Int) (r2 : Int) (r3 : Bool) (w : World) (hr0 : Kd.C (Kd.int .i64) w A0 l0.length l0) (hc0 : l0.length ≤ c0) (hr1_0 : Kd.C (Kd.slice 3 (Kd.int .i64)) w A1_0 l1_0.length l1_0) (hc1_0 : l1_0.length ≤ c1_0) (hr2 : Kd.C (Kd.int .i64) w A2 l2.length l2) (hc2 : l2.length ≤ c2) (h : impl_MoveOn.f k l0 l1_0 a1_1 l2 = some (r1, r2, r3)) :
    Calls Try.prog 23 #[.slice A0 l0.length c0, .agg #[.slice A1_0 l1_0.length c1_0, .int .i64 a1_1], .slice A2 l2.length c2] w fun e w' => ∃ v0_ : Value, e = .returned (.tuple #[v0_, .int .i64 r2, .bool r3]) ∧ Kd.R (Kd.int .i64) 3 w' w.heap.size (fun _ => True) v0_ r1 ∧ Below w.heap.size w w' := by
  have hu27 := Try.underlying27; have HR0 := Aside0.mk hr0; have HC0 := Aside0.mk hc0; clear hr0 hc0; have HR1_0 := Aside0.mk hr1_0; have HC1_0 := Aside0.mk hc1_0; clear hr1_0 hc1_0; have HR2 := Aside0.mk hr2; have HC2 := Aside0.mk hc2; clear hr2 hc2; have HB := Aside0.mk (Below.refl w.heap.size w); unfold impl_MoveOn.f at h; have H := h; clear h; have HC4 := Aside0.mk H; clear H; go_enter Try.func23, Try.ntmps23
  go_upto_region 1 with (first | ((with_reducible refine gate_dst (N := 4) rfl ?_); refine boxE (N := 4) (cs := #[.slice A1_0 l1_0.length c1_0, .int .i64 a1_1]) (t := 27) ?_; intro gb189 hg w5 hbox hb; have BK189 := Aside0.mk (hbox); have GW189 := GS w hg; have GE189 := GS w hg; replace HB := BS hb; clear hb hbox hg))
  (try simp only [Act.put, List.setIfInBounds_toArray, List.set_cons_zero, List.set_cons_succ])
  go_cut [26] (fun v26 wc => ∃ (kq : Nat) (x26_3 : Bool), v26 = .bool x26_3 ∧ Aside0 (impl_MoveOn.j0 kq l2 x26_3 l1_0 a1_1 = some (r1, r2, r3)) ∧ Aside0 (kq ≤ k) ∧ Aside0 (wc.heap[gb189]? = some (.cells #[(.slice A1_0 l1_0.length c1_0), .int .i64 a1_1] 27 (0, 0))) ∧ Aside0 (Below w.heap.size w wc))
  case first =>
    have H := HC4.out; clear HC4; obtain ⟨t190, A6, H⟩ := bnd H
    by_cases c7 : t190 = true
    · subst c7
      replace H := ifT H; obtain ⟨t191, A8, H⟩ := bnd H; have H' := Aside0.mk H; clear H; obtain ⟨hcz9_0, hcz9_1, hfz9_0, hfz9_1⟩ := bcf BK189
      go_wp2_with (first | ((with_reducible refine gate_callee (f := 21) rfl ?_); refine goesK (some 19) Try.func21 #[.slice A0 l0.length c0, .agg #[.slice A1_0 l1_0.length c1_0, .int .i64 a1_1]] ?_; (with_reducible refine (impl_MoveValid.calls k _ _ l0 _ _ l1_0 a1_1 true _ ?side1 ?side2 ?side3 ?side4 A6.out).mono ?_); (case side1 => exact U (Kd.C_below HR0.out HB.out)); (case side2 => exact HC0.out); (case side3 => exact U (Kd.C_below HR1_0.out HB.out)); (case side4 => exact HC1_0.out); rintro e w10 ⟨rfl, hb⟩; refine ⟨_, rfl, ?_⟩; replace BK189 := bB BK189 hb; replace HB := BS hb; (try clear hb)) | (go_at_call 56; (with_reducible refine (impl_vectorOk.calls k _ _ l0 _ _ l2 1000 t191 _ ?side1 ?side2 ?side3 ?side4 A8.out).mono ?_); (case side1 => exact U (Kd.C_below HR0.out HB.out)); (case side2 => exact HC0.out); (case side3 => exact U (Kd.C_below HR2.out HB.out)); (case side4 => exact HC2.out); rintro e w' ⟨rfl, ⟨nd, rfl⟩⟩))
      go_meet
      case rel => exact ⟨_, (!t191), sR, H', ⟨oR⟩, ⟨U BK189.out⟩, ⟨BU⟩⟩
    replace c7 := Bool.eq_false_iff.mpr c7; subst c7; replace H := ifF H; have H' := Aside0.mk H; clear H; obtain ⟨hcz11_0, hcz11_1, hfz11_0, hfz11_1⟩ := bcf BK189
    go_wp2_with (first | ((with_reducible refine gate_callee (f := 21) rfl ?_); refine goesK (some 19) Try.func21 #[.slice A0 l0.length c0, .agg #[.slice A1_0 l1_0.length c1_0, .int .i64 a1_1]] ?_; (with_reducible refine (impl_MoveValid.calls k _ _ l0 _ _ l1_0 a1_1 false _ ?side1 ?side2 ?side3 ?side4 A6.out).mono ?_); (case side1 => exact U (Kd.C_below HR0.out HB.out)); (case side2 => exact HC0.out); (case side3 => exact U (Kd.C_below HR1_0.out HB.out)); (case side4 => exact HC1_0.out); rintro e w12 ⟨rfl, hb⟩; refine ⟨_, rfl, ?_⟩; replace BK189 := bB BK189 hb; replace HB := BS hb; (try clear hb)))
    go_meet
    case rel => exact ⟨_, (true), sR, H', ⟨oR⟩, ⟨U BK189.out⟩, ⟨BU⟩⟩
  case rest =>
    clear HC4; obtain ⟨kq, x26_3, rfl, HA, HJ3, BK189, HB⟩ := hcut; cases kq with
    | zero => exact absurd HA.out (by simp [impl_MoveOn.j0])
    | succ kj3 =>
      have H := HA.out; clear HA; simp only [impl_MoveOn.j0] at H
      by_cases c13 : x26_3 = true
      · subst c13
        replace H := ifT H; simp only [Option.some.injEq, Prod.mk.injEq] at H; obtain ⟨rfl, rfl, rfl⟩ := H
        go_wp2
        go_ret3
        exact ⟨_, eR, by first | exact Kd.R_nil _ _ _ _ _ | exact Kd.N_nil _ _ _ _ _ | exact Kd.V_nil _ _ _ _ _ | exact Kd.Q_nil _ _ _ _ _ | exact Kd.S_nil _ _ _ _ _, BU⟩
      replace c13 := Bool.eq_false_iff.mpr c13; subst c13; replace H := ifF H; obtain ⟨y192, hy192⟩ : ∃ y_ : List Int, y_ = (([] : List Int)) := ⟨_, rfl⟩; replace H : (impl_MoveOn.l0 kj3 l2 y192 l1_0 (l1_0.length : Int) 0 l1_0 a1_1) = some (r1, r2, r3) := rH hy192 H; have Ny192 := Aside0.mk hy192; clear hy192; have H' := Aside0.mk H; clear H
      go_wp2_with (first | ((with_reducible refine gate_dst (N := 27) rfl ?_); refine Kd.R_lit (Kd.int .i64) _ 3 ?hg (N := 27) ?hd (xs := ([] : List Int)) (inner := []) (ok := fun _ => True) (okp := fun _ => True) ?hr ?hp (fun _ hk => hk) trivial (Below.refl _ _) (Nat.le_refl _) (by simp) ?_; (case hd => rfl); (case hg => rfl); (case hr => first | (go_simp; done) | (go_simp; rfl)); (case hp => exact (Reps.none _ _)); intro v193 w14 ho15 hb hg_ hnew_; clear hg_ hnew_; (first | rw [← Ny192.out] at ho15 | (simp only [Int.reduceToNat] at ho15; rw [← Ny192.out] at ho15)); have HO194 := Aside0.mk (Kd.R_lower ho15 (below_size BU)); replace BK189 := bB BK189 hb; replace HB := BS hb; clear hb ho15; obtain ⟨hcz16_0, hcz16_1, hfz16_0, hfz16_1⟩ := bcf BK189))
      go_loopg [9, 31] kj3 (fun kq v9 v31 w' => ∃ (x9_2 : List Int) (x31_2 : Int), v31 = .int .i64 x31_2 ∧ Aside0 (impl_MoveOn.l0 kq l2 x9_2 l1_0 (l1_0.length : Int) x31_2 l1_0 a1_1 = some (r1, r2, r3)) ∧ Aside0 (kq ≤ kj3) ∧ Aside0 (Kd.R (Kd.int .i64) 3 w' w.heap.size (fun _ => True) v9 x9_2) ∧ Aside0 (w'.heap[gb189]? = some (.cells #[(.slice A1_0 l1_0.length c1_0), .int .i64 a1_1] 27 (0, 0))) ∧ Aside0 (Below w.heap.size w w'))
      case atStart => exact ⟨(y192), (0), sR, H', ⟨Nat.le_refl _⟩, ⟨U HO194.out⟩, ⟨U BK189.out⟩, ⟨BU⟩⟩
      case round =>
        clear H'; (try clear c13); (try clear hcz16_0); (try clear hcz16_1); (try clear hfz16_0); (try clear hfz16_1); obtain ⟨x9_2, x31_2, rfl, HA, HK2, HO_9, BK189, HB⟩ := hrel; cases gk with
        | zero => exact absurd HA.out (by simp [impl_MoveOn.l0])
        | succ k2 =>
          have H := HA.out; clear HA; simp only [impl_MoveOn.l0] at H
          by_cases c17 : x31_2 < (l1_0.length : Int)
          · rw [if_pos c17] at H
            have c17b0 : decide (x31_2 < (l1_0.length : Int)) = true := decide_eq_true c17; clear c17; obtain ⟨c18, H⟩ := ifN H; have c18b0 : decide (0 ≤ x31_2) = true := decide_eq_true c18; clear c18; obtain ⟨c19, H⟩ := ifN H; have c19b0 : decide (x31_2 < (l1_0.length : Int)) = true := decide_eq_true c19; clear c19; have H' := Aside0.mk H; clear H; have p195 : 0 ≤ (x31_2 : Int) := oD; have q195 : x31_2 < (l1_0.length : Int) := oD; obtain ⟨ad195, A195_0, c195_0, e195, hx195_0, hl195_0, hi195_0⟩ := at_L1 HR1_0.out x31_2 p195 q195; cases e195; replace hx195_0 := (HB.out.cell (World.block_lt_of_cell? w _ hx195_0)).trans hx195_0; have HR195_0 := Aside0.mk hi195_0; have HC195_0 := Aside0.mk hl195_0; clear hi195_0 hl195_0; replace p195 := eq_true p195; replace q195 := eq_true q195
            go_wp2
            go_loopg [12, 37] k2 (fun kq v12 v37 w' => ∃ (x12_3 : Int) (x37_3 : Int), v12 = .int .i64 x12_3 ∧ v37 = .int .i64 x37_3 ∧ Aside0 (impl_MoveOn.l1 kq l2 x9_2 (rd_L1 l1_0 x31_2) x12_3 l1_0 (l1_0.length : Int) x31_2 l2 (l2.length : Int) x37_3 l1_0 a1_1 = some (r1, r2, r3)) ∧ Aside0 (kq ≤ k2) ∧ Aside0 (Kd.R (Kd.int .i64) 3 w' w.heap.size (fun _ => True) u9 x9_2) ∧ Aside0 (w'.heap[gb189]? = some (.cells #[(.slice (some ad195) l1_0.length c1_0), .int .i64 a1_1] 27 (0, 0))) ∧ Aside0 (Below w.heap.size w w'))
            case atStart => exact ⟨(0), (0), sR, sR, H', ⟨Nat.le_refl _⟩, ⟨U HO_9.out⟩, ⟨U BK189.out⟩, ⟨BU⟩⟩
            case round =>
              clear H'; (try clear c13); (try clear c17); (try clear c17b0); (try clear c18); (try clear c18b0); (try clear c19); (try clear c19b0); (try clear hcz16_0); (try clear hcz16_1); (try clear hfz16_0); (try clear hfz16_1); (try clear hx195_0); (try clear p195); (try clear q195); obtain ⟨x12_3, x37_3, rfl, rfl, HA, HK3, HO_9, BK189, HB⟩ := hrel; cases gk with
              | zero => exact absurd HA.out (by simp [impl_MoveOn.l1])
              | succ k3 =>
                have H := HA.out; clear HA; simp only [impl_MoveOn.l1] at H
                by_cases c20 : x37_3 < (l2.length : Int)
                · rw [if_pos c20] at H
                  have c20b0 : decide (x37_3 < (l2.length : Int)) = true := decide_eq_true c20; clear c20; obtain ⟨c21, H⟩ := ifN H; have c21b0 : decide (0 ≤ x37_3) = true := decide_eq_true c21; clear c21; obtain ⟨c22, H⟩ := ifN H; have c22b0 : decide (x37_3 < (l2.length : Int)) = true := decide_eq_true c22; clear c22; obtain ⟨c23, H⟩ := ifN H; have c23b0 : decide (x37_3 < ((rd_L1 l1_0 x31_2).length : Int)) = true := decide_eq_true c23; clear c23; have H' := Aside0.mk H; clear H; have p196 : 0 ≤ (x37_3 : Int) := oD; have q196 : x37_3 < (l2.length : Int) := oD; obtain ⟨ad196, e196, hx196_0⟩ := Kd.at_int HR2.out x37_3 p196 q196; cases e196; replace hx196_0 := (HB.out.cell (World.block_lt_of_cell? w _ hx196_0)).trans hx196_0; replace p196 := eq_true p196; replace q196 := eq_true q196; have p197 : 0 ≤ (x37_3 : Int) := oD; have q197 : x37_3 < ((rd_L1 l1_0 x31_2).length : Int) := oD; obtain ⟨ad197, e197, hx197_0⟩ := Kd.at_int HR195_0.out x37_3 p197 q197; cases e197; replace hx197_0 := (HB.out.cell (World.block_lt_of_cell? w _ hx197_0)).trans hx197_0; replace p197 := eq_true p197; replace q197 := eq_true q197
                  go_wp2
                  go_roundg k3
                  case measure => have := HJ3.out; have := HK2.out; have := HK3.out; omega
                  case rel => exact ⟨(wrap64 (x12_3 + (wrap64 ((rd (rd_L1 l1_0 x31_2) x37_3) * (rd l2 x37_3))))), (wrap64 (x37_3 + 1)), sR, sR, H', ⟨by have := HJ3.out; have := HK2.out; have := HK3.out; omega⟩, ⟨U HO_9.out⟩, ⟨U BK189.out⟩, ⟨BU⟩⟩
                rw [if_neg c20] at H; have c20b0 : decide (x37_3 < (l2.length : Int)) = false := decide_eq_false c20; clear c20; obtain ⟨y198, hy198⟩ : ∃ y_ : List Int, y_ = (([x12_3] : List Int)) := ⟨_, rfl⟩; replace H : (if x9_2.length + y198.length < 17592186044416 then (impl_MoveOn.l0 k3 l2 (x9_2 ++ y198) l1_0 (l1_0.length : Int) (wrap64 (x31_2 + 1)) l1_0 a1_1) else (none)) = some (r1, r2, r3) := rH hy198 H; have Ny198 := Aside0.mk hy198; clear hy198; obtain ⟨c24, H⟩ := ifN H; have LMc24 := Aside0.mk c24; clear c24; obtain ⟨y201, hy201⟩ : ∃ y_ : List Int, y_ = (x9_2 ++ y198) := ⟨_, rfl⟩; replace H : (impl_MoveOn.l0 k3 l2 y201 l1_0 (l1_0.length : Int) (wrap64 (x31_2 + 1)) l1_0 a1_1) = some (r1, r2, r3) := rH hy201 H; have Ny201 := Aside0.mk hy201; clear hy201; have H' := Aside0.mk H; clear H
                go_wp2_with (first | ((with_reducible refine gate_dst (N := 53) rfl ?_); refine Kd.R_lit (Kd.int .i64) _ 3 ?hg (N := 53) ?hd (xs := ([x12_3] : List Int)) (inner := [.int .i64 x12_3]) (ok := fun _ => True) (okp := fun _ => True) ?hr ?hp (fun _ hk => hk) trivial (Below.refl _ _) (Nat.le_refl _) (by simp) ?_; (case hd => rfl); (case hg => rfl); (case hr => first | (go_simp; done) | (go_simp; rfl)); (case hp => exact (Reps.one (show Kd.M (Kd.int .i64) _ _ _ x12_3 [.int .i64 x12_3] from rfl) (Reps.none _ _))); intro v199 w25 ho26 hb hg_ hnew_; clear hg_ hnew_; (first | rw [← Ny198.out] at ho26 | (simp only [Int.reduceToNat] at ho26; rw [← Ny198.out] at ho26)); have HO200 := Aside0.mk (Kd.R_lower (Kd.R_new' ho26 (Kd.R_lt (U HO_9.out))) (below_size BU)); replace HO_9 := Aside0.mk (Kd.R_elder' (U HO_9.out) (Kd.R_base ho26) hb); replace BK189 := bB BK189 hb; replace HB := BS hb; clear hb ho26; obtain ⟨Ao28, co28, eo28⟩ := Kd.R_slice HO200.out; subst eo28) | ((with_reducible refine gate_builtin (b := .append) (xs := #[.tmp 51, .tmp 53]) rfl ?_); at_builtin; refine Kd.R_append_rows (Kd.int .i64) (w0 := w) w.heap.size rfl (.tmp 51) (.tmp 53) 23 3 (.int .i64 0) 8 rfl Try.underlying23 info3 rfl (by decide) (by omega) u9 x9_2 y198 _ _ _ (fun k_ => some k_ ≠ (.slice Ao28 y198.length co28 : Value).ownBlock) (fun _ => False) rfl rfl ?aO ?aR (fun _ _ h => h) (fun _ h => h.elim) ?aF ?aB ?aS ?aL ?_; (case aR => exact U ((Kd.R_reads' HO200.out).2.2)); (case aB => exact BU); (case aF => exact (fun k_ hk => Kd.fresh' (Kd.R_lt (U HO200.out)) k_ hk)); (case aO => exact (Kd.RM HO_9.out (fun _ hk => hk.2))); (case aS => exact (below_size BU)); (case aL => have := LMc24.out; omega); intro v202 w27 ho hb hg hat; rw [← Ny201.out] at ho; have n0_ := bG BK189 hg (Kd.R_ne HO_9.out BK189.out (by decide)); have n1_ := Aside0.mk (Kd.R_after (ok := (fun _ => True)) (U HO200.out) hg hat); have n2_ := Aside0.mk (hb); have n3_ := Aside0.mk (ho); clear BK189; clear HO200; try clear HB; clear HO_9; have BK189 := n0_; have HO200 := n1_; have HB := n2_; have HO203 := n3_; clear n0_ n1_ n2_ n3_; clear ho hb hg hat))
                go_roundg k3
                case measure => have := HJ3.out; have := HK2.out; have := HK3.out; omega
                case rel => exact ⟨(y201), (wrap64 (x31_2 + 1)), sR, H', ⟨by have := HJ3.out; have := HK2.out; have := HK3.out; omega⟩, ⟨Kd.RM HO203.out (fun _ hk => trivial)⟩, ⟨U BK189.out⟩, ⟨BU⟩⟩
          rw [if_neg c17] at H; have c17b0 : decide (x31_2 < (l1_0.length : Int)) = false := decide_eq_false c17; clear c17; obtain ⟨t204, A29, H⟩ := bnd H; obtain ⟨y207, hy207⟩ : ∃ y_ : List Int, y_ = (([a1_1] : List Int)) := ⟨_, rfl⟩; replace H : (if t204.length + y207.length < 17592186044416 then ((impl_gcd.f k2 (t204 ++ y207)).bind fun t213 => (impl_MoveOn.l2 k2 x9_2 t213 (x9_2.length : Int) 0 l1_0 a1_1)) else (none)) = some (r1, r2, r3) := rH hy207 H; have Ny207 := Aside0.mk hy207; clear hy207; obtain ⟨c30, H⟩ := ifN H; have LMc30 := Aside0.mk c30; clear c30; obtain ⟨y210, hy210⟩ : ∃ y_ : List Int, y_ = (t204 ++ y207) := ⟨_, rfl⟩; replace H : ((impl_gcd.f k2 y210).bind fun t213 => (impl_MoveOn.l2 k2 x9_2 t213 (x9_2.length : Int) 0 l1_0 a1_1)) = some (r1, r2, r3) := rH hy210 H; have Ny210 := Aside0.mk hy210; clear hy210; obtain ⟨t213, A31, H⟩ := bnd H; have H' := Aside0.mk H; clear H; obtain ⟨Ao32, co32, eo32⟩ := Kd.R_slice HO_9.out; subst eo32
          try go_wp2
          replace HO_9 := Aside0.mk (Kd.R_drew HO_9.out); replace BK189 := Aside0.mk (blk_drew BK189.out); replace HB := Aside0.mk (below_drew1 HB.out)
          refine start_ (n := 8) (S := fun w' => w'.cell? ⟨gb189, 0, none⟩ = some (.slice A1_0 l1_0.length c1_0) ∧ w'.cell? ⟨gb189, 1, none⟩ = some (.int .i64 a1_1)) (ds := []) #[false, false, false, false, false, false, false, false] (by kernel_rfl) rfl rfl ⟨(blk_cell BK189.out 0).trans rfl, (blk_cell BK189.out 1).trans rfl⟩ (fun hHeld => ?_); refine with_tabW impl_MoveOn.tab15 impl_MoveOn.bits15 (fun HT_ HW_ => ?_)
          generalize wr.drew = w33 at HO_9 BK189 HB hHeld ⊢
          refine pure_ (i := 0) (N := some 56) (v := ?_) (a' := ?_) #[true, false, false, false, false, false, false, false] rfl rfl (any_of HT_.out (by kernel_rfl)) (fun _ _ _ h => h) (Or.inl ⟨by rfl, ?_⟩) ?_ ?_
          rotate_left
          · intro w'
            go_simp
            with_reducible rfl
          rotate_left
          · simp only [Act.put, List.setIfInBounds_toArray, List.set_cons_zero, List.set_cons_succ, i64_w, i32_w]
            rfl
          refine pure_ (i := 2) (N := some 58) (v := ?_) (a' := ?_) #[true, false, true, false, false, false, false, false] rfl rfl (any_of HT_.out (by kernel_rfl)) (fun _ _ _ h => h) (Or.inl ⟨by rfl, ?_⟩) ?_ ?_
          rotate_left
          · intro w'
            go_simp
            with_reducible rfl
          rotate_left
          · simp only [Act.put, List.setIfInBounds_toArray, List.set_cons_zero, List.set_cons_succ, i64_w, i32_w]
            rfl
          refine take_ (i := 3) (N := some 59) (v := ?_) (a' := ?_) #[true, false, true, true, false, false, false, false] rfl rfl (take_ofW HT_.out HW_.out (by kernel_rfl)) (fun _ _ _ h => h) (Or.inl ⟨by rfl, ?_⟩) hHeld ?_ ?_
          rotate_left
          · rintro w' ⟨s0, s1⟩
            go_simp
            with_reducible rfl
          rotate_left
          · simp only [Act.put, List.setIfInBounds_toArray, List.set_cons_zero, List.set_cons_succ, i64_w, i32_w]
            rfl
          refine join_ (σ := Value × Value) 3 #[true, true, true, true, true, false, false, false] (fun s_ => [(57, s_.1), (60, s_.2)]) (fun s_ w' => (w'.cell? ⟨gb189, 0, none⟩ = some (.slice A1_0 l1_0.length c1_0) ∧ w'.cell? ⟨gb189, 1, none⟩ = some (.int .i64 a1_1)) ∧ (Kd.R (Kd.int .i64) 3 w' w.heap.size (fun k_ => some k_ ≠ (s_.2 : Value).ownBlock ∧ some k_ ≠ (.slice Ao32 x9_2.length co32 : Value).ownBlock) s_.1 t204) ∧ (Kd.R (Kd.int .i64) 3 w' w.heap.size (fun k_ => some k_ ≠ (s_.1 : Value).ownBlock ∧ some k_ ≠ (.slice Ao32 x9_2.length co32 : Value).ownBlock) s_.2 y207) ∧ (Kd.R (Kd.int .i64) 3 w' w.heap.size (fun k_ => some k_ ≠ (s_.1 : Value).ownBlock ∧ some k_ ≠ (s_.2 : Value).ownBlock) (.slice Ao32 x9_2.length co32) x9_2) ∧ (w'.heap[gb189]? = some (.cells #[.slice A1_0 l1_0.length c1_0, .int .i64 a1_1] 27 (0, 0))) ∧ (Below w.heap.size w w')) ?_ ?_
          rotate_left
          · intro hCont
            refine two_ (i := 1) (j := 4) (Ni := some 57) (Nj := some 60) #[true, true, true, true, false, false, false, false] #[true, false, true, true, true, false, false, false] rfl rfl rfl rfl (two_of HT_.out (by kernel_rfl)) (by decide) (by decide) (fun K hK => ?_) (fun K hK => ?_)
            · skip
              refine goes_ Try.func66 (by kernel_rfl) rfl #[.slice Ao32 x9_2.length co32] (by rfl) rfl rfl (by (try simp only [List.map_toArray, List.map_cons, List.map_nil]); first | done | rfl | (simp only [List.length_drop, List.length_take]; rfl)) ?_
              with_reducible refine (slices_Clone_int_int.calls _ _ x9_2 t204 _ ?side1 ?side2 A29.out).mono ?_
              (case side1 => exact U ((Kd.R_reads' HO_9.out).2.2))
              (case side2 => exact (Kd.R_reads' HO_9.out).2.1)
              rintro e w34 ⟨v205, rfl, ho0, hb⟩
              refine ⟨_, rfl, ?_⟩
              have HO206 := Aside0.mk (Kd.R_lower (Kd.R_new' ho0 (Kd.R_lt (U HO_9.out))) (below_size BU)); replace HO_9 := Aside0.mk (Kd.R_elder' (U HO_9.out) (Kd.R_base ho0) hb); replace BK189 := bB BK189 hb; replace HB := BS hb; (try clear hb); (try clear hb2); (try clear hk); (try clear hi); (try clear ho0)
              refine hK.out _ _ ⟨(blk_cell BK189.out 0).trans rfl, (blk_cell BK189.out 1).trans rfl⟩ (fun hHeld => ?_)
              clear hK K
              refine norm_ (a' := ?_) ?_ ?_
              rotate_left
              · show Act.put _ (some 57) _ = _
                simp only [Act.put, List.setIfInBounds_toArray, List.set_cons_zero, List.set_cons_succ, i64_w, i32_w]
                rfl
              refine one_ (i := 4) (N := some 60) #[true, true, true, true, true, false, false, false] rfl rfl (one_of HT_.out (by kernel_rfl)) (by decide) (fun K hK => ?_)
              refine Kd.R_lit_step (Kd.int .i64) _ 3 ?hg (N := 60) ?hd (xs := ([a1_1] : List Int)) (inner := [.int .i64 a1_1]) (ok := fun _ => True) (okp := fun _ => True) ?hr ?hp (fun _ hk => hk) trivial (Below.refl _ _) (Nat.le_refl _) (by simp) ?_; (case hd => rfl); (case hg => rfl); (case hr => first | (go_simp; done) | (go_simp; rfl)); (case hp => exact (Reps.one (show Kd.M (Kd.int .i64) _ _ _ a1_1 [.int .i64 a1_1] from rfl) (Reps.none _ _)))
              intro v208 w35 ho36 hb hg_ hnew_; clear hg_ hnew_
              (first | rw [← Ny207.out] at ho36 | (simp only [Int.reduceToNat] at ho36; rw [← Ny207.out] at ho36))
              have HO209 := Aside0.mk (Kd.R_lower (Kd.R_new' (Kd.R_new' ho36 (Kd.R_lt (U HO_9.out))) (Kd.R_lt (U HO206.out))) (below_size BU)); replace HO_9 := Aside0.mk (Kd.R_elder' (U HO_9.out) (Kd.R_base ho36) hb); replace HO206 := Aside0.mk (Kd.R_elder' (U HO206.out) (Kd.R_base ho36) hb); replace BK189 := bB BK189 hb; replace HB := BS hb; clear hb ho36
              refine hK.out _ _ ⟨(blk_cell BK189.out 0).trans rfl, (blk_cell BK189.out 1).trans rfl⟩ (fun hHeld => ?_)
              clear hK K
              refine norm_ (a' := ?_) ?_ ?_
              rotate_left
              · show Act.put _ (some 60) _ = _
                simp only [Act.put, List.setIfInBounds_toArray, List.set_cons_zero, List.set_cons_succ, i64_w, i32_w]
                rfl
              exact norm_ (by simp only [putAll, Act.put, List.setIfInBounds_toArray, List.set_cons_zero, List.set_cons_succ]) (hCont (v205, v208) _ ⟨hHeld, (Kd.RM HO206.out (fun _ hk => ⟨hk.2, hk.1.2⟩)), (Kd.RM HO209.out (fun _ hk => ⟨hk.2, hk.1.2⟩)), (Kd.RM HO_9.out (fun _ hk => ⟨hk.1.2, hk.2⟩)), (U BK189.out), BU⟩)
            skip
            refine Kd.R_lit_step (Kd.int .i64) _ 3 ?hg (N := 60) ?hd (xs := ([a1_1] : List Int)) (inner := [.int .i64 a1_1]) (ok := fun _ => True) (okp := fun _ => True) ?hr ?hp (fun _ hk => hk) trivial (Below.refl _ _) (Nat.le_refl _) (by simp) ?_; (case hd => rfl); (case hg => rfl); (case hr => first | (go_simp; done) | (go_simp; rfl)); (case hp => exact (Reps.one (show Kd.M (Kd.int .i64) _ _ _ a1_1 [.int .i64 a1_1] from rfl) (Reps.none _ _)))
            intro v208 w34 ho35 hb hg_ hnew_; clear hg_ hnew_
            (first | rw [← Ny207.out] at ho35 | (simp only [Int.reduceToNat] at ho35; rw [← Ny207.out] at ho35))
            have HO209 := Aside0.mk (Kd.R_lower (Kd.R_new' ho35 (Kd.R_lt (U HO_9.out))) (below_size BU)); replace HO_9 := Aside0.mk (Kd.R_elder' (U HO_9.out) (Kd.R_base ho35) hb); replace BK189 := bB BK189 hb; replace HB := BS hb; clear hb ho35
            refine hK.out _ _ ⟨(blk_cell BK189.out 0).trans rfl, (blk_cell BK189.out 1).trans rfl⟩ (fun hHeld => ?_)
            clear hK K
            refine norm_ (a' := ?_) ?_ ?_
            rotate_left
            · show Act.put _ (some 60) _ = _
              simp only [Act.put, List.setIfInBounds_toArray, List.set_cons_zero, List.set_cons_succ, i64_w, i32_w]
              rfl
            refine one_ (i := 1) (N := some 57) #[true, true, true, true, true, false, false, false] rfl rfl (one_of HT_.out (by kernel_rfl)) (by decide) (fun K hK => ?_)
            refine goes_ Try.func66 (by kernel_rfl) rfl #[.slice Ao32 x9_2.length co32] (by rfl) rfl rfl (by (try simp only [List.map_toArray, List.map_cons, List.map_nil]); first | done | rfl | (simp only [List.length_drop, List.length_take]; rfl)) ?_
            with_reducible refine (slices_Clone_int_int.calls _ _ x9_2 t204 _ ?side1 ?side2 A29.out).mono ?_
            (case side1 => exact U ((Kd.R_reads' HO_9.out).2.2))
            (case side2 => exact (Kd.R_reads' HO_9.out).2.1)
            rintro e w36 ⟨v205, rfl, ho0, hb⟩
            refine ⟨_, rfl, ?_⟩
            have HO206 := Aside0.mk (Kd.R_lower (Kd.R_new' (Kd.R_new' ho0 (Kd.R_lt (U HO_9.out))) (Kd.R_lt (U HO209.out))) (below_size BU)); replace HO_9 := Aside0.mk (Kd.R_elder' (U HO_9.out) (Kd.R_base ho0) hb); replace HO209 := Aside0.mk (Kd.R_elder' (U HO209.out) (Kd.R_base ho0) hb); replace BK189 := bB BK189 hb; replace HB := BS hb; (try clear hb); (try clear hb2); (try clear hk); (try clear hi); (try clear ho0)
            refine hK.out _ _ ⟨(blk_cell BK189.out 0).trans rfl, (blk_cell BK189.out 1).trans rfl⟩ (fun hHeld => ?_)
            clear hK K
            refine norm_ (a' := ?_) ?_ ?_
            rotate_left
            · show Act.put _ (some 57) _ = _
              simp only [Act.put, List.setIfInBounds_toArray, List.set_cons_zero, List.set_cons_succ, i64_w, i32_w]
              rfl
            exact norm_ (by simp only [putAll, Act.put, List.setIfInBounds_toArray, List.set_cons_zero, List.set_cons_succ]) (hCont (v205, v208) _ ⟨hHeld, (Kd.RM HO206.out (fun _ hk => ⟨hk.2, hk.1.2⟩)), (Kd.RM HO209.out (fun _ hk => ⟨hk.2, hk.1.2⟩)), (Kd.RM HO_9.out (fun _ hk => ⟨hk.2, hk.1.2⟩)), (U BK189.out), BU⟩)
          rintro ⟨v205, v208⟩ w37 ⟨hS_, h0_, h1_, h2_, h3_, h4_⟩; have n0_ : Aside0 (Kd.R (Kd.int .i64) 3 w37 w.heap.size (fun k_ => some k_ ≠ (v208 : Value).ownBlock ∧ some k_ ≠ (.slice Ao32 x9_2.length co32 : Value).ownBlock) v205 t204) := ⟨h0_⟩; have n1_ : Aside0 (Kd.R (Kd.int .i64) 3 w37 w.heap.size (fun k_ => some k_ ≠ (v205 : Value).ownBlock ∧ some k_ ≠ (.slice Ao32 x9_2.length co32 : Value).ownBlock) v208 y207) := ⟨h1_⟩; have n2_ : Aside0 (Kd.R (Kd.int .i64) 3 w37 w.heap.size (fun k_ => some k_ ≠ (v205 : Value).ownBlock ∧ some k_ ≠ (v208 : Value).ownBlock) (.slice Ao32 x9_2.length co32) x9_2) := ⟨h2_⟩; have n3_ : Aside0 (w37.heap[gb189]? = some (.cells #[.slice A1_0 l1_0.length c1_0, .int .i64 a1_1] 27 (0, 0))) := ⟨h3_⟩; have n4_ : Aside0 (Below w.heap.size w w37) := ⟨h4_⟩; clear HO_9 BK189; (try clear HB); clear h0_ h1_ h2_ h3_ h4_; have HO206 := n0_; have HO209 := n1_; have HO_9 := n2_; have BK189 := n3_; have HB := n4_; clear n0_ n1_ n2_ n3_ n4_; have hHeld : w37.cell? ⟨gb189, 0, none⟩ = some (.slice A1_0 l1_0.length c1_0) ∧ w37.cell? ⟨gb189, 1, none⟩ = some (.int .i64 a1_1) := hS_; obtain ⟨Ao39, co39, eo39⟩ := Kd.R_slice HO209.out
          (first | subst eo39 | (injection eo39 with f1_ f2_ f3_; have f4_ := f1_.symm; have f5_ := f3_.symm; clear f1_ f2_ f3_; subst f4_; subst f5_))
          refine norm_ (a' := ?_) ?_ ?_
          rotate_left
          · simp only [putAll, Act.put, List.setIfInBounds_toArray, List.set_cons_zero, List.set_cons_succ]
            rfl
          refine one_ (i := 5) (N := some 61) #[true, true, true, true, true, true, false, false] rfl rfl (one_of HT_.out (by kernel_rfl)) (by decide) (fun K hK => ?_)
          refine Kd.R_append_rows_step (Kd.int .i64) (w0 := w) w.heap.size (by rfl) (.tmp 57) (.tmp 60) 23 3 (.int .i64 0) 8 rfl Try.underlying23 info3 rfl (by decide) (by omega) v205 t204 y207 _ _ _ (fun k_ => some k_ ≠ (.slice Ao32 x9_2.length co32 : Value).ownBlock ∧ some k_ ≠ (.slice Ao39 y207.length co39 : Value).ownBlock) (fun _ => False) rfl rfl ?aO ?aR (fun _ _ h => h) (fun _ h => h.elim) ?aF ?aB ?aS ?aL ?_
          (case aR => exact U ((Kd.R_reads' HO209.out).2.2))
          (case aB => exact BU)
          (case aF => exact (fun k_ hk => ⟨Kd.fresh' (Kd.R_lt (U HO_9.out)) k_ hk, Kd.fresh' (Kd.R_lt (U HO209.out)) k_ hk⟩))
          (case aO => exact (Kd.RM HO206.out (fun _ hk => ⟨hk.2, hk.1⟩)))
          (case aS => exact (below_size BU))
          (case aL => have := LMc30.out; omega)
          intro v211 w38 ho hb hg hat; rw [← Ny210.out] at ho; have n0_ := Aside0.mk (Kd.R_after (ok := (fun k_ => some k_ ≠ (.slice Ao39 y207.length co39 : Value).ownBlock)) (Kd.RM HO_9.out (fun _ hk => ⟨hk.2, hk.1⟩)) hg hat); have n1_ := bG BK189 hg (Kd.R_ne HO206.out BK189.out (by decide)); have n2_ := Aside0.mk (Kd.R_after (ok := (fun k_ => some k_ ≠ (.slice Ao32 x9_2.length co32 : Value).ownBlock)) (Kd.RM HO209.out (fun _ hk => ⟨hk.2, hk.1⟩)) hg hat); have n3_ := Aside0.mk (hb); have n4_ := Aside0.mk (ho); clear HO_9 BK189 HO209; (try clear HB); clear HO206; have HO_9 := n0_; have BK189 := n1_; have HO209 := n2_; have HB := n3_; have HO212 := n4_; clear n0_ n1_ n2_ n3_ n4_ ho hb hg hat; obtain ⟨Ao40, co40, eo40⟩ := Kd.R_slice HO212.out
          (first | subst eo40 | (injection eo40 with f1_ f2_ f3_; have f4_ := f1_.symm; have f5_ := f3_.symm; clear f1_ f2_ f3_; subst f4_; subst f5_))
          refine hK.out _ _ ⟨(blk_cell BK189.out 0).trans rfl, (blk_cell BK189.out 1).trans rfl⟩ (fun hHeld => ?_)
          clear hK K
          refine norm_ (a' := ?_) ?_ ?_
          rotate_left
          · show Act.put _ (some 61) _ = _
            simp only [Act.put, List.setIfInBounds_toArray, List.set_cons_zero, List.set_cons_succ, i64_w, i32_w]
            rfl
          refine one_ (i := 6) (N := some 62) #[true, true, true, true, true, true, true, false] rfl rfl (one_of HT_.out (by kernel_rfl)) (by decide) (fun K hK => ?_)
          refine goes_ Try.func63 (by kernel_rfl) rfl #[.slice Ao40 y210.length co40] (by rfl) rfl rfl (by (try simp only [List.map_toArray, List.map_cons, List.map_nil]); first | done | rfl | (simp only [List.length_drop, List.length_take]; rfl)) ?_
          with_reducible refine (impl_gcd.calls k2 _ _ y210 t213 _ ?side1 ?side2 A31.out).mono ?_
          (case side1 => exact U ((Kd.R_reads' HO212.out).2.2))
          (case side2 => exact (Kd.R_reads' HO212.out).2.1)
          rintro e w41 ⟨rfl, hb⟩
          refine ⟨_, rfl, ?_⟩
          replace HO_9 := Aside0.mk (Kd.R_below (U HO_9.out) hb); replace HO209 := Aside0.mk (Kd.R_below (U HO209.out) hb); replace HO212 := Aside0.mk (Kd.R_below (U HO212.out) hb); replace BK189 := bB BK189 hb; replace HB := BS hb; (try clear hb); (try clear hb2); (try clear hk); (try clear hi)
          refine hK.out _ _ ⟨(blk_cell BK189.out 0).trans rfl, (blk_cell BK189.out 1).trans rfl⟩ (fun hHeld => ?_)
          clear hK K
          refine norm_ (a' := ?_) ?_ ?_
          rotate_left
          · show Act.put _ (some 62) _ = _
            simp only [Act.put, List.setIfInBounds_toArray, List.set_cons_zero, List.set_cons_succ, i64_w, i32_w]
            rfl
          refine pure_ (i := 7) (N := some 15) (v := ?_) (a' := ?_) #[true, true, true, true, true, true, true, true] rfl rfl (any_of HT_.out (by kernel_rfl)) (fun _ _ _ h => h) (Or.inl ⟨by rfl, ?_⟩) ?_ ?_
          rotate_left
          · intro w'
            go_simp
            with_reducible rfl
          rotate_left
          · simp only [Act.put, List.setIfInBounds_toArray, List.set_cons_zero, List.set_cons_succ, i64_w, i32_w]
            rfl
          refine done_ (done_of HT_.out (by kernel_rfl)) ?_
          try go_wp2
          go_loopg [65] k2 (fun kq v65 w' => ∃ (x9_3 : List Int) (x65_3 : Int), v65 = .int .i64 x65_3 ∧ Aside0 (impl_MoveOn.l2 kq x9_3 t213 (x9_2.length : Int) x65_3 l1_0 a1_1 = some (r1, r2, r3)) ∧ Aside0 (kq ≤ k2) ∧ Aside0 (Kd.R (Kd.int .i64) 3 w' w.heap.size (fun _ => True) (.slice Ao32 x9_2.length co32) x9_3) ∧ Aside0 (w'.heap[gb189]? = some (.cells #[(.slice A1_0 l1_0.length c1_0), .int .i64 a1_1] 27 (0, 0))) ∧ Aside0 (Below w.heap.size w w'))
          case atStart => exact ⟨(x9_2), (0), sR, H', ⟨Nat.le_refl _⟩, ⟨Kd.RM HO_9.out (fun _ hk => trivial)⟩, ⟨U BK189.out⟩, ⟨BU⟩⟩
          case round =>
            clear H'; (try clear c13); (try clear c17); (try clear c17b0); (try clear c30); (try clear hcz16_0); (try clear hcz16_1); (try clear hfz16_0); (try clear hfz16_1); obtain ⟨x9_3, x65_3, rfl, HA, HK3, HO_9, BK189, HB⟩ := hrel; have hl9_3 := (Kd.R_reads' HO_9.out).1; rw [hl9_3] at HO_9
            (try simp only [hl9_3])
            (try simp only [hl9_3] at BK189)
            cases gk with
            | zero => exact absurd HA.out (by simp [impl_MoveOn.l2])
            | succ k3 =>
              have H := HA.out; clear HA; simp only [impl_MoveOn.l2] at H
              by_cases c42 : x65_3 < (x9_2.length : Int)
              · rw [if_pos c42] at H
                have c42b0 : decide (x65_3 < (x9_2.length : Int)) = true := decide_eq_true c42
                have c42b0z9_3 : decide (x65_3 < (x9_3.length : Int)) = true := by rw [← hl9_3]; exact c42b0
                clear c42; obtain ⟨c43, H⟩ := ifN H; have c43b0 : decide (0 ≤ x65_3) = true := decide_eq_true c43; clear c43; obtain ⟨c44, H⟩ := ifN H; have c44b0 : decide (x65_3 < (x9_3.length : Int)) = true := decide_eq_true c44; clear c44; obtain ⟨c45, H⟩ := ifM H; have c45b0 : (t213 == 0) = false := beq_eq_false_iff_ne.mpr c45; have c45b1 : (t213 != 0) = true := bne_iff_ne.mpr c45; obtain ⟨y215, hy215⟩ : ∃ y_ : List Int, y_ = (x9_3.set (x65_3 : Int).toNat (wrap64 (Int.tdiv (rd x9_3 x65_3) t213))) := ⟨_, rfl⟩; replace H : (impl_MoveOn.l2 k3 y215 t213 (x9_2.length : Int) (wrap64 (x65_3 + 1)) l1_0 a1_1) = some (r1, r2, r3) := rH hy215 H; have Ny215 := Aside0.mk hy215; clear hy215; have H' := Aside0.mk H; clear H; have p214 : 0 ≤ (x65_3 : Int) := oD; have q214 : x65_3 < (x9_3.length : Int) := oD; obtain ⟨ad214, e214, hx214_0⟩ := Kd.at_int (Kd.R_reads' HO_9.out).2.2 x65_3 p214 q214; cases e214; replace p214 := eq_true p214; replace q214 := eq_true q214; have p46 : 0 ≤ (x65_3 : Int) := oD; have q46 : (x65_3 : Int) < ((x9_3.length : Int) : Int) := oD; obtain ⟨go46, co46, eo46, gb46, gl46, cl46, HG46⟩ := Kd.R_form HO_9.out (by omega)
                (first | cases eo46 | (injection eo46 with ea_ en_ ec_; (first | subst ea_ | (injection ea_ with ea_; subst ea_)); subst ec_; clear en_))
                have GB46 := Aside0.mk gb46; have GG46 := Aside0.mk HG46; clear gb46 gl46 HG46
                (first | simp only [add_plain] at hx214_0 | skip)
                obtain ⟨hx46_0, hf46_0⟩ := Kd.R_celln 0 HO_9.out (x65_3 : Int) p46 q46; replace p46 := eq_true p46; replace q46 := eq_true q46; have HP47 := Kd.R_putg HO_9.out (x65_3 : Int) (wrap64 (Int.tdiv (rd x9_3 x65_3) t213))
                go_wp2_with (first | ((with_reducible refine gate_store (t := 3) (p := 74) rfl ?_); refine store_event (t := 3) (p := 74) (v := ?vo_w48) (w1 := (wr.setCell ⟨go46, (x65_3 : Int).toNat, none⟩ (.int .i64 (wrap64 (Int.tdiv (rd x9_3 x65_3) t213))))) ?hg ?ho ?hn ?hr ?_; (case ho => rfl); (case hg => rfl); (case hn => rfl); (case hr => first | (go_simp; done) | (go_simp; rfl)); intro w48 hw; have hg : wr.grownBy w48 (some go46) := (by rw [hw]; exact HP47.2); have hp_ : Kd.R (Kd.int .i64) 3 w48 w.heap.size (fun _ => True) (.slice (some ⟨go46, 0, none⟩) x9_3.length co32) y215 := (by rw [hw, Ny215.out]; exact HP47.1); clear HP47; replace BK189 := bG BK189 hg (Kd.R_ne HO_9.out BK189.out (by decide)); replace HO_9 := Aside0.mk (hp_); replace HB := Aside0.mk ((by rw [hw]; exact below_set (HB.out) GB46.out : Below w.heap.size w w48)); clear hg hw hp_))
                (try simp only [← hl9_3])
                go_roundg k3
                case measure => have := HJ3.out; have := HK2.out; have := HK3.out; omega
                case rel => exact ⟨(y215), (wrap64 (x65_3 + 1)), sR, H', ⟨by have := HJ3.out; have := HK2.out; have := HK3.out; omega⟩, ⟨by (try simp only [hl9_3]); (with_reducible repeat (first | apply Kd.R_alloc | apply Kd.R_drewN | apply Kd.R_drew)); exact HO_9.out⟩, ⟨by (try simp only [hl9_3]); (with_reducible repeat (first | refine blk_drewN ?_ _ | refine blk_drew ?_ | refine blk_alloc ?_ _)); exact BK189.out⟩, ⟨BU⟩⟩
              rw [if_neg c42] at H; have c42b0 : decide (x65_3 < (x9_2.length : Int)) = false := decide_eq_false c42
              have c42b0z9_3 : decide (x65_3 < (x9_3.length : Int)) = false := by rw [← hl9_3]; exact c42b0
              clear c42; obtain ⟨c49, H⟩ := ifM H; have c49b0 : (t213 == 0) = false := beq_eq_false_iff_ne.mpr c49; have c49b1 : (t213 != 0) = true := bne_iff_ne.mpr c49; simp only [Option.some.injEq, Prod.mk.injEq] at H; obtain ⟨rfl, rfl, rfl⟩ := H
              try go_wp2
              replace HO_9 := Aside0.mk (Kd.R_drew HO_9.out); replace BK189 := Aside0.mk (blk_drew BK189.out); replace HB := Aside0.mk (below_drew1 HB.out)
              refine start_ (n := 8) (S := fun w' => w'.cell? ⟨gb189, 0, none⟩ = some (.slice A1_0 l1_0.length c1_0) ∧ w'.cell? ⟨gb189, 1, none⟩ = some (.int .i64 a1_1)) (ds := []) #[false, false, false, false, false, false, false, false] (by kernel_rfl) rfl rfl ⟨(blk_cell BK189.out 0).trans rfl, (blk_cell BK189.out 1).trans rfl⟩ (fun hHeld => ?_); refine with_tabW impl_MoveOn.tab21 impl_MoveOn.bits21 (fun HT_ HW_ => ?_)
              generalize wr.drew = w50 at HO_9 BK189 HB hHeld ⊢
              refine pure_ (i := 0) (N := some 76) (v := ?_) (a' := ?_) #[true, false, false, false, false, false, false, false] rfl rfl (any_of HT_.out (by kernel_rfl)) (fun _ _ _ h => h) (Or.inl ⟨by rfl, ?_⟩) ?_ ?_
              rotate_left
              · intro w'
                go_simp
                with_reducible rfl
              rotate_left
              · simp only [Act.put, List.setIfInBounds_toArray, List.set_cons_zero, List.set_cons_succ, i64_w, i32_w]
                rfl
              refine pure_ (i := 1) (N := some 77) (v := ?_) (a' := ?_) #[true, true, false, false, false, false, false, false] rfl rfl (any_of HT_.out (by kernel_rfl)) (fun _ _ _ h => h) (Or.inl ⟨by rfl, ?_⟩) ?_ ?_
              rotate_left
              · intro w'
                go_simp
                with_reducible rfl
              rotate_left
              · simp only [Act.put, List.setIfInBounds_toArray, List.set_cons_zero, List.set_cons_succ, i64_w, i32_w]
                rfl
              refine pure_ (i := 3) (N := some 79) (v := ?_) (a' := ?_) #[true, true, false, true, false, false, false, false] rfl rfl (any_of HT_.out (by kernel_rfl)) (fun _ _ _ h => h) (Or.inl ⟨by rfl, ?_⟩) ?_ ?_
              rotate_left
              · intro w'
                go_simp
                with_reducible rfl
              rotate_left
              · simp only [Act.put, List.setIfInBounds_toArray, List.set_cons_zero, List.set_cons_succ, i64_w, i32_w]
                rfl
              refine pure_ (i := 5) (N := some 6) (v := ?_) (a' := ?_) #[true, true, false, true, false, true, false, false] rfl rfl (any_of HT_.out (by kernel_rfl)) (fun _ _ _ h => h) (Or.inl ⟨by rfl, ?_⟩) ?_ ?_
              rotate_left
              · intro w'
                go_simp
                with_reducible rfl
              rotate_left
              · simp only [Act.put, List.setIfInBounds_toArray, List.set_cons_zero, List.set_cons_succ, i64_w, i32_w]
                rfl
              refine take_ (i := 2) (N := some 78) (v := ?_) (a' := ?_) #[true, true, true, true, false, true, false, false] rfl rfl (take_ofW HT_.out HW_.out (by kernel_rfl)) (fun _ _ _ h => h) (Or.inl ⟨by rfl, ?_⟩) hHeld ?_ ?_
              rotate_left
              · rintro w' ⟨s0, s1⟩
                go_simp
                with_reducible rfl
              rotate_left
              · simp only [Act.put, List.setIfInBounds_toArray, List.set_cons_zero, List.set_cons_succ, i64_w, i32_w]
                rfl
              refine pure_ (i := 4) (N := some 80) (v := ?_) (a' := ?_) #[true, true, true, true, true, true, false, false] rfl rfl (any_of HT_.out (by kernel_rfl)) (fun _ _ _ h => h) (Or.inl ⟨by rfl, ?_⟩) ?_ ?_
              rotate_left
              · intro w'
                go_simp
                with_reducible rfl
              rotate_left
              · simp only [Act.put, List.setIfInBounds_toArray, List.set_cons_zero, List.set_cons_succ, i64_w, i32_w]
                rfl
              refine pure_ (i := 6) (N := some 7) (v := ?_) (a' := ?_) #[true, true, true, true, true, true, true, false] rfl rfl (any_of HT_.out (by kernel_rfl)) (fun _ _ _ h => h) (Or.inl ⟨by rfl, ?_⟩) ?_ ?_
              rotate_left
              · intro w'
                go_simp
                with_reducible rfl
              rotate_left
              · simp only [Act.put, List.setIfInBounds_toArray, List.set_cons_zero, List.set_cons_succ, i64_w, i32_w]
                rfl
              refine pure_ (i := 7) (N := some 8) (v := ?_) (a' := ?_) #[true, true, true, true, true, true, true, true] rfl rfl (any_of HT_.out (by kernel_rfl)) (fun _ _ _ h => h) (Or.inl ⟨by rfl, ?_⟩) ?_ ?_
              rotate_left
              · intro w'
                go_simp
                with_reducible rfl
              rotate_left
              · simp only [Act.put, List.setIfInBounds_toArray, List.set_cons_zero, List.set_cons_succ, i64_w, i32_w]
                rfl
              refine done_ (done_of HT_.out (by kernel_rfl)) ?_
              try go_wp2
              go_ret3
              exact ⟨_, eR, U HO_9.out, BU⟩

end Go.Proofs.Ytnbeeogmaamgdaa.PFnCarry
