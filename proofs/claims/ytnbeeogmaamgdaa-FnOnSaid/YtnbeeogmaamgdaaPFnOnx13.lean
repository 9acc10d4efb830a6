-- Written by a program of this session (wip/print2.py): the functions that the law reaches, plain, and the walks.
import Derived.Test.YtnbeeogmaamgdaaPFnOnx0
import Derived.Test.YtnbeeogmaamgdaaPFnOnx2
import Derived.Test.YtnbeeogmaamgdaaPFnOnx3
import Derived.Test.YtnbeeogmaamgdaaPFnOnx12
namespace Go.Proofs.Ytnbeeogmaamgdaa.PFnOn
open Go.RowKit Go.Proofs.YtnbeeogmaamgdaaW.PrintWords Go.Proofs.YtnbeeogmaamgdaaW.PrintLast Go.Proofs.YtnbeeogmaamgdaaW.PrintMore
attribute [local go_sem] max2_int min2_int max_two min_two max_three min_three max_four min_four   -- for this text's walks alone
set_option linter.unusedVariables false
set_option linter.unusedSimpArgs false

/-! ### spec_MoveOn: function 24 -/
def spec_MoveOn.j0 : Nat → List Int → Bool → List (List Int) → Int → Option (List Int × Int × Bool)
  | 0, _, _, _, _ => none
  | k + 1, x2, x19, x413000, x413001 => if x19 = true then (some ((([] : List Int)), 0, false)) else ((spec_l7On.f k x413000 x413001 x2).bind fun t418 => ((spec_l7Low.f k (([t418] : List (List Int))) x413001).bind fun bt424 => (if 0 < (bt424.1.length : Int) then (some (rd_L2 bt424.1 0, bt424.2, true)) else (none))))
def spec_MoveOn.f (k : Nat) (l0 : List Int) (l1_0 : List (List Int)) (a1_1 : Int) (l2 : List Int) : Option (List Int × Int × Bool) := (spec_MoveValid.f k l0 l1_0 a1_1).bind fun t413 => (if t413 = true then ((spec_l4Vector.f k l0 l2 1000).bind fun t414 => (spec_MoveOn.j0 k l2 (!t414) l1_0 a1_1)) else (spec_MoveOn.j0 k l2 true l1_0 a1_1))
theorem spec_MoveOn.mono_l : ∀ k, (∀ y0 y1 y2 y3, LeO (spec_MoveOn.j0 k y0 y1 y2 y3) (spec_MoveOn.j0 (k + 1) y0 y1 y2 y3))
  | 0 => fun _ _ _ _ r h => by simp [spec_MoveOn.j0] at h
  | k + 1 => by
    have ih0 := spec_MoveOn.mono_l k
    · intro y0 y1 y2 y3
      unfold spec_MoveOn.j0
      repeat' first
      | (with_reducible exact ih0 _ _ _ _)
      | (with_reducible exact spec_MoveValid.mono _ _ _ _)
      | (with_reducible exact spec_l4Vector.mono _ _ _ _)
      | (with_reducible exact spec_l7Low.mono _ _ _)
      | (with_reducible exact spec_l7On.mono _ _ _ _)
      | (with_reducible exact LeO.refl _)
      | (with_reducible exact LeO.none _)
      | (with_reducible refine LeO.ite ?_ ?_)
      | (with_reducible refine LeO.bind ?_ (fun _ => ?_))
      | exact ih0 _ _ _ _
      | exact spec_MoveValid.mono _ _ _ _
      | exact spec_l4Vector.mono _ _ _ _
      | exact spec_l7Low.mono _ _ _
      | exact spec_l7On.mono _ _ _ _
      | exact LeO.none _
      | refine LeO.ite ?_ ?_
      | refine LeO.bind ?_ (fun _ => ?_)
theorem spec_MoveOn.mono : ∀ a0 a1 a2 a3 k, LeO (spec_MoveOn.f k a0 a1 a2 a3) (spec_MoveOn.f (k + 1) a0 a1 a2 a3) := by
  intro a0 a1 a2 a3 k
  have ih0 := spec_MoveOn.mono_l k
  unfold spec_MoveOn.f
  repeat' first
      | (with_reducible exact ih0 _ _ _ _)
      | (with_reducible exact spec_MoveValid.mono _ _ _ _)
      | (with_reducible exact spec_l4Vector.mono _ _ _ _)
      | (with_reducible exact spec_l7Low.mono _ _ _)
      | (with_reducible exact spec_l7On.mono _ _ _ _)
      | (with_reducible exact LeO.refl _)
      | (with_reducible exact LeO.none _)
      | (with_reducible refine LeO.ite ?_ ?_)
      | (with_reducible refine LeO.bind ?_ (fun _ => ?_))
      | exact ih0 _ _ _ _
      | exact spec_MoveValid.mono _ _ _ _
      | exact spec_l4Vector.mono _ _ _ _
      | exact spec_l7Low.mono _ _ _
      | exact spec_l7On.mono _ _ _ _
      | exact LeO.none _
      | refine LeO.ite ?_ ?_
      | refine LeO.bind ?_ (fun _ => ?_)
def spec_MoveOn.T3 : Bool × List (List Nat × List Nat) := (true, [([], []), ([], []), ([0, 1], [0, 1]), ([2], [2]), ([], []), ([4], [4]), ([3, 5, 2], [3, 5]), ([], []), ([7, 6, 6, 0, 1, 2, 3, 4, 5, 6, 7], [6, 7])])
def spec_MoveOn.B3 : List Nat := [0, 0, 3, 7, 0, 16, 63, 0, 255]
theorem spec_MoveOn.tab3 : rtab .any (opsOf Try.f24 3) = spec_MoveOn.T3 := by kernel_rfl
theorem spec_MoveOn.bits3 : waitsOk spec_MoveOn.T3.2 spec_MoveOn.B3 = true := by kernel_rfl
def spec_MoveOn.T4 : Bool × List (List Nat × List Nat) := (true, [([], []), ([0], [0]), ([1], [1]), ([2], [2]), ([], []), ([4], [4]), ([3, 0, 1, 2, 3], [3]), ([5, 6, 0, 1, 2, 3, 4, 5, 6], [5]), ([7, 0, 1, 2, 3, 4, 5, 6, 7], [])])
def spec_MoveOn.B4 : List Nat := [0, 1, 3, 7, 0, 16, 15, 127, 255]
theorem spec_MoveOn.tab4 : rtab .any (opsOf Try.f24 4) = spec_MoveOn.T4 := by kernel_rfl
theorem spec_MoveOn.bits4 : waitsOk spec_MoveOn.T4.2 spec_MoveOn.B4 = true := by kernel_rfl
set_option maxHeartbeats 8000000 in
set_option maxRecDepth 100000 in
theorem spec_MoveOn.calls (k : Nat) (A0 : Option Addr) (c0 : Nat) (l0 : List Int) (A1_0 : Option Addr) (c1_0 : Nat) (l1_0 : List (List Int)) (a1_1 : Int) (A2 : Option Addr) (c2 : Nat) (l2 : List Int) (r1 : List Int) (r2 : Int) (r3 : Bool) (w : World) (hr0 : Kd.C (Kd.int .i64) w A0 l0.length l0) (hc0 : l0.length ≤ c0) (hr1_0 : Kd.C (Kd.slice 3 (Kd.int .i64)) w A1_0 l1_0.length l1_0) (hc1_0 : l1_0.length ≤ c1_0) (hr2 : Kd.C (Kd.int .i64) w A2 l2.length l2) (hc2 : l2.length ≤ c2) (h : spec_MoveOn.f k l0 l1_0 a1_1 l2 = some (r1, r2, r3)) :
    Calls Try.prog 24 #[.slice A0 l0.length c0, .agg #[.slice A1_0 l1_0.length c1_0, .int .i64 a1_1], .slice A2 l2.length c2] w fun e w' => ∃ v0_ : Value, e = .returned (.tuple #[v0_, .int .i64 r2, .bool r3]) ∧ Kd.V (Kd.int .i64) 3 w' w.heap.size (fun k_ => (w.heap.size ≤ k_)) v0_ r1 ∧ Below w.heap.size w w' := by
  have hu27 := Try.underlying27; have HR0 := Aside0.mk hr0; have HC0 := Aside0.mk hc0; clear hr0 hc0; have HR1_0 := Aside0.mk hr1_0; have HC1_0 := Aside0.mk hc1_0; clear hr1_0 hc1_0; have HR2 := Aside0.mk hr2; have HC2 := Aside0.mk hc2; clear hr2 hc2; have HB := Aside0.mk (Below.refl w.heap.size w); unfold spec_MoveOn.f at h; have H := h; clear h; have HC4 := Aside0.mk H; clear H; go_enter Try.func24, Try.ntmps24
  go_upto_region 1 with (first | ((with_reducible refine gate_dst (N := 4) rfl ?_); refine boxE (N := 4) (cs := #[.slice A1_0 l1_0.length c1_0, .int .i64 a1_1]) (t := 27) ?_; intro gb412 hg w5 hbox hb; have BK412 := Aside0.mk (hbox); have GW412 := GS w hg; have GE412 := GS w hg; replace HB := BS hb; clear hb hbox hg))
  (try simp only [Act.put, List.setIfInBounds_toArray, List.set_cons_zero, List.set_cons_succ])
  go_cut [19] (fun v19 wc => ∃ (kq : Nat) (x19_3 : Bool), v19 = .bool x19_3 ∧ Aside0 (spec_MoveOn.j0 kq l2 x19_3 l1_0 a1_1 = some (r1, r2, r3)) ∧ Aside0 (kq ≤ k) ∧ Aside0 (wc.heap[gb412]? = some (.cells #[(.slice A1_0 l1_0.length c1_0), .int .i64 a1_1] 27 (0, 0))) ∧ Aside0 (Below w.heap.size w wc))
  case first =>
    have H := HC4.out; clear HC4; obtain ⟨t413, A6, H⟩ := bnd H
    by_cases c7 : t413 = true
    · subst c7
      replace H := ifT H; obtain ⟨t414, A8, H⟩ := bnd H; have H' := Aside0.mk H; clear H; obtain ⟨hcz9_0, hcz9_1, hfz9_0, hfz9_1⟩ := bcf BK412
      go_wp2_with (first | ((with_reducible refine gate_callee (f := 41) rfl ?_); refine goesK (some 12) Try.func41 #[.slice A0 l0.length c0, .agg #[.slice A1_0 l1_0.length c1_0, .int .i64 a1_1]] ?_; (with_reducible refine (spec_MoveValid.calls k _ _ l0 _ _ l1_0 a1_1 true _ ?side1 ?side2 ?side3 ?side4 A6.out).mono ?_); (case side1 => exact U (Kd.C_below HR0.out HB.out)); (case side2 => exact HC0.out); (case side3 => exact U (Kd.C_below HR1_0.out HB.out)); (case side4 => exact HC1_0.out); rintro e w10 ⟨rfl, hb⟩; refine ⟨_, rfl, ?_⟩; replace BK412 := bB BK412 hb; replace HB := BS hb; (try clear hb)) | (go_at_call 67; (with_reducible refine (spec_l4Vector.calls k _ _ l0 _ _ l2 1000 t414 _ ?side1 ?side2 ?side3 ?side4 A8.out).mono ?_); (case side1 => exact U (Kd.C_below HR0.out HB.out)); (case side2 => exact HC0.out); (case side3 => exact U (Kd.C_below HR2.out HB.out)); (case side4 => exact HC2.out); rintro e w' ⟨rfl, ⟨nd, rfl⟩⟩))
      go_meet
      case rel => exact ⟨_, (!t414), sR, H', ⟨oR⟩, ⟨U BK412.out⟩, ⟨BU⟩⟩
    replace c7 := Bool.eq_false_iff.mpr c7; subst c7; replace H := ifF H; have H' := Aside0.mk H; clear H; obtain ⟨hcz11_0, hcz11_1, hfz11_0, hfz11_1⟩ := bcf BK412
    go_wp2_with (first | ((with_reducible refine gate_callee (f := 41) rfl ?_); refine goesK (some 12) Try.func41 #[.slice A0 l0.length c0, .agg #[.slice A1_0 l1_0.length c1_0, .int .i64 a1_1]] ?_; (with_reducible refine (spec_MoveValid.calls k _ _ l0 _ _ l1_0 a1_1 false _ ?side1 ?side2 ?side3 ?side4 A6.out).mono ?_); (case side1 => exact U (Kd.C_below HR0.out HB.out)); (case side2 => exact HC0.out); (case side3 => exact U (Kd.C_below HR1_0.out HB.out)); (case side4 => exact HC1_0.out); rintro e w12 ⟨rfl, hb⟩; refine ⟨_, rfl, ?_⟩; replace BK412 := bB BK412 hb; replace HB := BS hb; (try clear hb)))
    go_meet
    case rel => exact ⟨_, (true), sR, H', ⟨oR⟩, ⟨U BK412.out⟩, ⟨BU⟩⟩
  case rest =>
    clear HC4; obtain ⟨kq, x19_3, rfl, HA, HJ3, BK412, HB⟩ := hcut; cases kq with
    | zero => exact absurd HA.out (by simp [spec_MoveOn.j0])
    | succ kj3 =>
      have H := HA.out; clear HA; simp only [spec_MoveOn.j0] at H
      by_cases c13 : x19_3 = true
      · subst c13
        replace H := ifT H; obtain ⟨y415, hy415⟩ : ∃ y_ : List Int, y_ = (([] : List Int)) := ⟨_, rfl⟩; replace H : (some (y415, 0, false)) = some (r1, r2, r3) := rH hy415 H; have Ny415 := Aside0.mk hy415; clear hy415; simp only [Option.some.injEq, Prod.mk.injEq] at H; obtain ⟨rfl, rfl, rfl⟩ := H
        go_wp2_with (first | ((with_reducible refine gate_dst (N := 20) rfl ?_); refine Kd.R_lit (Kd.int .i64) _ 3 ?hg (N := 20) ?hd (xs := ([] : List Int)) (inner := []) (ok := fun _ => True) (okp := fun _ => True) ?hr ?hp (fun _ hk => hk) trivial (Below.refl _ _) (Nat.le_refl _) (by simp) ?_; (case hd => rfl); (case hg => rfl); (case hr => first | (go_simp; done) | (go_simp; rfl)); (case hp => exact (Reps.none _ _)); intro v416 w14 ho15 hb hg_ hnew_; clear hg_ hnew_; (first | rw [← Ny415.out] at ho15 | (simp only [Int.reduceToNat] at ho15; rw [← Ny415.out] at ho15)); have HO417 := Aside0.mk (Kd.R_lower (Kd.R_newM (M := fun k_ => (w.heap.size ≤ k_)) ho15 (below_size BU) (fun k_ h_ => h_)) (below_size BU)); replace BK412 := bB BK412 hb; replace HB := BS hb; clear hb ho15))
        go_ret3
        exact ⟨_, eR, Kd.R_V (Kd.RM HO417.out (fun _ hk => hk.1)), BU⟩
      replace c13 := Bool.eq_false_iff.mpr c13; subst c13; replace H := ifF H; obtain ⟨t418, A16, H⟩ := bnd H; obtain ⟨y421, hy421⟩ : ∃ y_ : List (List Int), y_ = (([t418] : List (List Int))) := ⟨_, rfl⟩; replace H : ((spec_l7Low.f kj3 y421 a1_1).bind fun bt424 => (if 0 < (bt424.1.length : Int) then (some (rd_L2 bt424.1 0, bt424.2, true)) else (none))) = some (r1, r2, r3) := rH hy421 H; have Ny421 := Aside0.mk hy421; clear hy421; obtain ⟨⟨t424, t427⟩, A17, H⟩ := bnd H; replace H : (if 0 < (t424.length : Int) then (some (rd_L2 t424 0, t427, true)) else (none)) = some (r1, r2, r3) := H; obtain ⟨c18, H⟩ := ifN H; have c18b0 : decide (0 < (t424.length : Int)) = true := decide_eq_true c18; have c18b1 : decide (0 < t424.length) = true := decide_eq_true (by omega); clear c18; simp only [Option.some.injEq, Prod.mk.injEq] at H; obtain ⟨rfl, rfl, rfl⟩ := H
      try go_wp2
      replace BK412 := Aside0.mk (blk_drew BK412.out); replace HB := Aside0.mk (below_drew1 HB.out)
      refine start_ (n := 9) (S := fun w' => w'.cell? ⟨gb412, 0, none⟩ = some (.slice A1_0 l1_0.length c1_0) ∧ w'.cell? ⟨gb412, 1, none⟩ = some (.int .i64 a1_1)) (ds := []) #[false, false, false, false, false, false, false, false, false] (by kernel_rfl) rfl rfl ⟨(blk_cell BK412.out 0).trans rfl, (blk_cell BK412.out 1).trans rfl⟩ (fun hHeld => ?_); refine with_tabW spec_MoveOn.tab3 spec_MoveOn.bits3 (fun HT_ HW_ => ?_)
      generalize wc.drew = w19 at BK412 HB hHeld ⊢
      refine pure_ (i := 1) (N := some 22) (v := ?_) (a' := ?_) #[false, true, false, false, false, false, false, false, false] rfl rfl (any_of HT_.out (by kernel_rfl)) (fun _ _ _ h => h) (Or.inl ⟨by rfl, ?_⟩) ?_ ?_
      rotate_left
      · intro w'
        go_simp
        with_reducible rfl
      rotate_left
      · simp only [Act.put, List.setIfInBounds_toArray, List.set_cons_zero, List.set_cons_succ, i64_w, i32_w]
        rfl
      refine pure_ (i := 4) (N := some 25) (v := ?_) (a' := ?_) #[false, true, false, false, true, false, false, false, false] rfl rfl (any_of HT_.out (by kernel_rfl)) (fun _ _ _ h => h) (Or.inl ⟨by rfl, ?_⟩) ?_ ?_
      rotate_left
      · intro w'
        go_simp
        with_reducible rfl
      rotate_left
      · simp only [Act.put, List.setIfInBounds_toArray, List.set_cons_zero, List.set_cons_succ, i64_w, i32_w]
        rfl
      refine take_ (i := 0) (N := some 21) (v := ?_) (a' := ?_) #[true, true, false, false, true, false, false, false, false] rfl rfl (take_ofW HT_.out HW_.out (by kernel_rfl)) (fun _ _ _ h => h) (Or.inl ⟨by rfl, ?_⟩) hHeld ?_ ?_
      rotate_left
      · rintro w' ⟨s0, s1⟩
        go_simp
        with_reducible rfl
      rotate_left
      · simp only [Act.put, List.setIfInBounds_toArray, List.set_cons_zero, List.set_cons_succ, i64_w, i32_w]
        rfl
      refine take_ (i := 5) (N := some 26) (v := ?_) (a' := ?_) #[true, true, false, false, true, true, false, false, false] rfl rfl (take_ofW HT_.out HW_.out (by kernel_rfl)) (fun _ _ _ h => h) (Or.inl ⟨by rfl, ?_⟩) hHeld ?_ ?_
      rotate_left
      · rintro w' ⟨s0, s1⟩
        go_simp
        with_reducible rfl
      rotate_left
      · simp only [Act.put, List.setIfInBounds_toArray, List.set_cons_zero, List.set_cons_succ, i64_w, i32_w]
        rfl
      refine join_ (σ := Value × Value × Value × Nat) 1 #[true, true, true, true, true, true, true, true, false] (fun s_ => [(23, s_.1), (24, s_.2.1), (27, .agg #[s_.2.2.1, .int .i64 t427]), (9, .pointer (some ⟨s_.2.2.2, 0, none⟩))]) (fun s_ w' => (w'.cell? ⟨gb412, 0, none⟩ = some (.slice A1_0 l1_0.length c1_0) ∧ w'.cell? ⟨gb412, 1, none⟩ = some (.int .i64 a1_1)) ∧ (Kd.N (Kd.slice 3 (Kd.int .i64)) 23 w' w.heap.size (fun k_ => (w.heap.size ≤ k_) ∧ some k_ ≠ (s_.2.2.1 : Value).ownBlock ∧ k_ ≠ gb412 ∧ k_ ≠ s_.2.2.2) s_.2.1 y421) ∧ (Kd.N (Kd.slice 3 (Kd.int .i64)) 23 w' w.heap.size (fun k_ => (w.heap.size ≤ k_) ∧ some k_ ≠ (s_.2.1 : Value).ownBlock ∧ k_ ≠ gb412 ∧ k_ ≠ s_.2.2.2) s_.2.2.1 t424) ∧ (w'.heap[gb412]? = some (.cells #[.slice A1_0 l1_0.length c1_0, .int .i64 a1_1] 27 (0, 0))) ∧ (w'.heap[s_.2.2.2]? = some (.cells #[.slice none 0 0, .int .i64 0] 27 (0, 0))) ∧ (w.heap.size ≤ s_.2.2.2) ∧ (w.heap.size ≤ s_.2.2.2) ∧ (gb412 ≠ s_.2.2.2) ∧ (s_.2.2.2 ≠ gb412) ∧ (Below w.heap.size w w')) ?_ ?_
      rotate_left
      · intro hCont
        refine two_ (i := 2) (j := 7) (Ni := some 23) (Nj := some 9) #[true, true, true, false, true, true, false, false, false] #[true, true, false, false, true, true, false, true, false] rfl rfl rfl rfl (two_of HT_.out (by kernel_rfl)) (by decide) (by decide) (fun K hK => ?_) (fun K hK => ?_)
        · skip
          refine goes_ Try.func69 (by kernel_rfl) rfl #[.agg #[.slice A1_0 l1_0.length c1_0, .int .i64 a1_1], .slice A2 l2.length c2] (by rfl) rfl rfl (by (try simp only [List.map_toArray, List.map_cons, List.map_nil]); first | done | rfl | (simp only [List.length_drop, List.length_take]; rfl)) ?_
          with_reducible refine (spec_l7On.calls kj3 _ _ l1_0 a1_1 _ _ l2 t418 _ ?side1 ?side2 ?side3 ?side4 A16.out).mono ?_
          (case side1 => exact U (Kd.C_below HR1_0.out HB.out))
          (case side2 => exact HC1_0.out)
          (case side3 => exact U (Kd.C_below HR2.out HB.out))
          (case side4 => exact HC2.out)
          rintro e w20 ⟨v419, rfl, ho0, hb⟩
          refine ⟨_, rfl, ?_⟩
          have HO420 := Aside0.mk (Kd.R_lower (Kd.R_newM (M := fun k_ => (w.heap.size ≤ k_)) ho0 (below_size BU) (fun k_ h_ => h_)) (below_size BU)); replace BK412 := bB BK412 hb; replace HB := BS hb; (try clear hb); (try clear hb2); (try clear hk); (try clear hi); (try clear ho0); obtain ⟨Ao21, co21, eo21⟩ := Kd.R_slice HO420.out
          (first | subst eo21 | (injection eo21 with f1_ f2_ f3_; have f4_ := f1_.symm; have f5_ := f3_.symm; clear f1_ f2_ f3_; subst f4_; subst f5_))
          refine hK.out _ _ ⟨(blk_cell BK412.out 0).trans rfl, (blk_cell BK412.out 1).trans rfl⟩ (fun hHeld => ?_)
          clear hK K
          refine norm_ (a' := ?_) ?_ ?_
          rotate_left
          · show Act.put _ (some 23) _ = _
            simp only [Act.put, List.setIfInBounds_toArray, List.set_cons_zero, List.set_cons_succ, i64_w, i32_w]
            rfl
          refine two_ (i := 3) (j := 7) (Ni := some 24) (Nj := some 9) #[true, true, true, true, true, true, false, false, false] #[true, true, true, false, true, true, false, true, false] rfl rfl rfl rfl (two_of HT_.out (by kernel_rfl)) (by decide) (by decide) (fun K hK => ?_) (fun K hK => ?_)
          · skip
            refine Kd.N_lit_step (Kd.slice 3 (Kd.int .i64)) _ 23 ?hg (N' := 24) ?hd (xs := ([t418] : List (List Int))) (inner := [.slice Ao21 t418.length co21]) (ok := (fun k_ => (w.heap.size ≤ k_) ∧ k_ ≠ gb412)) (okp := (fun k_ => (w.heap.size ≤ k_) ∧ k_ ≠ gb412)) ?hr ?hp (fun _ hk => hk) ((show ∀ k_, w20.heap.size ≤ k_ → (fun k_ => (w.heap.size ≤ k_) ∧ k_ ≠ gb412) k_ from fun k_ hk => ⟨(Nat.le_trans (below_size BU) hk), Kd.freshB (g := gb412) (o := .cells #[.slice A1_0 l1_0.length c1_0, .int .i64 a1_1] 27 (0, 0)) (U BK412.out) k_ hk⟩) _ (Nat.le_refl _)) (Below.refl _ _) (Nat.le_refl _) (by simp) ?_; (case hd => rfl); (case hg => rfl); (case hr => first | (go_simp; done) | (go_simp; rfl)); (case hp => exact (Reps.one (show Kd.FK (Kd.slice 3 (Kd.int .i64)) _ _ t418 [.slice Ao21 t418.length co21] from (Kd.FK_slice_mk (Kd.R_reads' (Kd.R_mono (ok' := (fun k_ => (w.heap.size ≤ k_) ∧ k_ ≠ gb412)) (Kd.R_types (HO420.out) BK412.out (by decide)) (fun k_ hk => ⟨hk.1.1, hk.2⟩))).2.1 (Kd.R_F (Kd.R_mono (ok' := (fun k_ => (w.heap.size ≤ k_) ∧ k_ ≠ gb412)) (Kd.R_types (HO420.out) BK412.out (by decide)) (fun k_ hk => ⟨hk.1.1, hk.2⟩))))) (Reps.none _ _)))
            intro v422 w22 ho23 hb hg_ hnew_; clear hg_ hnew_
            (first | rw [← Ny421.out] at ho23 | (simp only [Int.reduceToNat] at ho23; rw [← Ny421.out] at ho23))
            have n0_ := Aside0.mk (Kd.N_lower ho23 (below_size BU)); have n1_ := bB BK412 hb; have n2_ := BS hb; clear BK412; (try clear HB); clear HO420; have HO423 := n0_; have BK412 := n1_; have HB := n2_; clear n0_ n1_ n2_ hb ho23; obtain ⟨Ao24, co24, eo24⟩ := Kd.N_slice HO423.out
            (first | subst eo24 | (injection eo24 with f1_ f2_ f3_; have f4_ := f1_.symm; have f5_ := f3_.symm; clear f1_ f2_ f3_; subst f4_; subst f5_))
            refine hK.out _ _ ⟨(blk_cell BK412.out 0).trans rfl, (blk_cell BK412.out 1).trans rfl⟩ (fun hHeld => ?_)
            clear hK K
            refine norm_ (a' := ?_) ?_ ?_
            rotate_left
            · show Act.put _ (some 24) _ = _
              simp only [Act.put, List.setIfInBounds_toArray, List.set_cons_zero, List.set_cons_succ, i64_w, i32_w]
              rfl
            refine two_ (i := 6) (j := 7) (Ni := some 27) (Nj := some 9) #[true, true, true, true, true, true, true, false, false] #[true, true, true, true, true, true, false, true, false] rfl rfl rfl rfl (two_of HT_.out (by kernel_rfl)) (by decide) (by decide) (fun K hK => ?_) (fun K hK => ?_)
            · skip
              refine goes_ Try.func68 (by kernel_rfl) rfl #[.slice Ao24 y421.length co24, .int .i64 a1_1] (by rfl) rfl rfl (by (try simp only [List.map_toArray, List.map_cons, List.map_nil]); first | done | rfl | (simp only [List.length_drop, List.length_take]; rfl)) ?_
              with_reducible refine (spec_l7Low.calls kj3 _ _ y421 a1_1 t424 t427 _ ?side1 ?side2 A17.out).mono ?_
              (case side1 => exact U ((Kd.N_reads' HO423.out).2.2))
              (case side2 => exact (Kd.N_reads' HO423.out).2.1)
              rintro e w25 ⟨v425, rfl, ho0, hb⟩
              refine ⟨_, rfl, ?_⟩
              have HO426 := Aside0.mk (Kd.N_lower (Kd.N_mono (ok' := fun k_ => (w.heap.size ≤ k_) ∧ some k_ ≠ (.slice Ao24 y421.length co24 : Value).ownBlock ∧ k_ ≠ gb412) (Kd.S_N (Kd.S_bound ho0)) (fun k_ hk_ => ⟨(Nat.le_trans (below_size BU) hk_.2.1), (Kd.fresh' (Kd.N_lt (U HO423.out)) k_ hk_.2.1), (Kd.freshB (g := gb412) (o := .cells #[.slice A1_0 l1_0.length c1_0, .int .i64 a1_1] 27 (0, 0)) (U BK412.out) k_ hk_.2.1)⟩)) (below_size BU)); replace HO423 := Aside0.mk (Kd.N_elder' (U HO423.out) (by first | exact Kd.N_base ho0 | exact Kd.S_base ho0) hb); replace BK412 := bB BK412 hb; replace HB := BS hb; (try clear hb); (try clear hb2); (try clear hk); (try clear hi); (try clear ho0)
              refine hK.out _ _ ⟨(blk_cell BK412.out 0).trans rfl, (blk_cell BK412.out 1).trans rfl⟩ (fun hHeld => ?_)
              clear hK K
              refine norm_ (a' := ?_) ?_ ?_
              rotate_left
              · show Act.put _ (some 27) _ = _
                simp only [Act.put, List.setIfInBounds_toArray, List.set_cons_zero, List.set_cons_succ, i64_w, i32_w]
                rfl
              refine one_ (i := 7) (N := some 9) #[true, true, true, true, true, true, true, true, false] rfl rfl (one_of HT_.out (by kernel_rfl)) (by decide) (fun K hK => ?_)
              refine box_step ?hg (N := 9) ?hd (cs := #[.slice none 0 0, .int .i64 0]) (t := 27) ?hr ?_; (case hd => rfl); (case hg => rfl); (case hr => first | (go_simp; done) | (go_simp; rfl))
              intro gb428 hg w26 hbox hb; replace HO423 := Aside0.mk (Kd.N_below (Kd.N_elderB (U HO423.out) gb428 (Nat.le_of_eq hg.symm)) hb); replace HO426 := Aside0.mk (Kd.N_below (Kd.N_elderB (U HO426.out) gb428 (Nat.le_of_eq hg.symm)) hb); have BK428 := Aside0.mk (hbox); have GW428 := GS w hg; have GE428 := GS w hg; replace HB := BS hb; have NB412_428 := NL BK412 hg; have NB428_412 := NG BK412 hg; replace BK412 := bB BK412 hb; clear hb hbox hg
              refine hK.out _ _ ⟨(blk_cell BK412.out 0).trans rfl, (blk_cell BK412.out 1).trans rfl⟩ (fun hHeld => ?_)
              clear hK K
              refine norm_ (a' := ?_) ?_ ?_
              rotate_left
              · show Act.put _ (some 9) _ = _
                simp only [Act.put, List.setIfInBounds_toArray, List.set_cons_zero, List.set_cons_succ, i64_w, i32_w]
                rfl
              exact norm_ (by simp only [putAll, Act.put, List.setIfInBounds_toArray, List.set_cons_zero, List.set_cons_succ]) (hCont (.slice Ao21 t418.length co21, .slice Ao24 y421.length co24, v425, gb428) _ ⟨hHeld, (Kd.NM HO423.out (fun _ hk => ⟨hk.1.1.1, ⟨hk.1.2, ⟨hk.1.1.2, hk.2⟩⟩⟩)), (Kd.NM HO426.out (fun _ hk => ⟨hk.1.1, ⟨hk.1.2.1, ⟨hk.1.2.2, hk.2⟩⟩⟩)), (U BK412.out), (U BK428.out), GW428.out, GE428.out, NB412_428.out, NB428_412.out, BU⟩)
            skip
            refine box_step ?hg (N := 9) ?hd (cs := #[.slice none 0 0, .int .i64 0]) (t := 27) ?hr ?_; (case hd => rfl); (case hg => rfl); (case hr => first | (go_simp; done) | (go_simp; rfl))
            intro gb428 hg w24 hbox hb; replace HO423 := Aside0.mk (Kd.N_below (Kd.N_elderB (U HO423.out) gb428 (Nat.le_of_eq hg.symm)) hb); have BK428 := Aside0.mk (hbox); have GW428 := GS w hg; have GE428 := GS w hg; replace HB := BS hb; have NB412_428 := NL BK412 hg; have NB428_412 := NG BK412 hg; replace BK412 := bB BK412 hb; clear hb hbox hg; obtain ⟨Ao25, co25, eo25⟩ := Kd.N_slice HO423.out
            (first | subst eo25 | (injection eo25 with f1_ f2_ f3_; have f4_ := f1_.symm; have f5_ := f3_.symm; clear f1_ f2_ f3_; subst f4_; subst f5_))
            refine hK.out _ _ ⟨(blk_cell BK412.out 0).trans rfl, (blk_cell BK412.out 1).trans rfl⟩ (fun hHeld => ?_)
            clear hK K
            refine norm_ (a' := ?_) ?_ ?_
            rotate_left
            · show Act.put _ (some 9) _ = _
              simp only [Act.put, List.setIfInBounds_toArray, List.set_cons_zero, List.set_cons_succ, i64_w, i32_w]
              rfl
            refine one_ (i := 6) (N := some 27) #[true, true, true, true, true, true, true, true, false] rfl rfl (one_of HT_.out (by kernel_rfl)) (by decide) (fun K hK => ?_)
            refine goes_ Try.func68 (by kernel_rfl) rfl #[.slice Ao25 y421.length co25, .int .i64 a1_1] (by rfl) rfl rfl (by (try simp only [List.map_toArray, List.map_cons, List.map_nil]); first | done | rfl | (simp only [List.length_drop, List.length_take]; rfl)) ?_
            with_reducible refine (spec_l7Low.calls kj3 _ _ y421 a1_1 t424 t427 _ ?side1 ?side2 A17.out).mono ?_
            (case side1 => exact U ((Kd.N_reads' HO423.out).2.2))
            (case side2 => exact (Kd.N_reads' HO423.out).2.1)
            rintro e w26 ⟨v425, rfl, ho0, hb⟩
            refine ⟨_, rfl, ?_⟩
            have HO426 := Aside0.mk (Kd.N_lower (Kd.N_mono (ok' := fun k_ => (w.heap.size ≤ k_) ∧ some k_ ≠ (.slice Ao25 y421.length co25 : Value).ownBlock ∧ k_ ≠ gb412 ∧ k_ ≠ gb428) (Kd.S_N (Kd.S_bound ho0)) (fun k_ hk_ => ⟨(Nat.le_trans (below_size BU) hk_.2.1), (Kd.fresh' (Kd.N_lt (U HO423.out)) k_ hk_.2.1), (Kd.freshB (g := gb412) (o := .cells #[.slice A1_0 l1_0.length c1_0, .int .i64 a1_1] 27 (0, 0)) (U BK412.out) k_ hk_.2.1), (Kd.freshB (g := gb428) (o := .cells #[.slice none 0 0, .int .i64 0] 27 (0, 0)) (U BK428.out) k_ hk_.2.1)⟩)) (below_size BU)); replace HO423 := Aside0.mk (Kd.N_elder' (U HO423.out) (by first | exact Kd.N_base ho0 | exact Kd.S_base ho0) hb); replace BK412 := bB BK412 hb; replace BK428 := bB BK428 hb; replace HB := BS hb; (try clear hb); (try clear hb2); (try clear hk); (try clear hi); (try clear ho0)
            refine hK.out _ _ ⟨(blk_cell BK412.out 0).trans rfl, (blk_cell BK412.out 1).trans rfl⟩ (fun hHeld => ?_)
            clear hK K
            refine norm_ (a' := ?_) ?_ ?_
            rotate_left
            · show Act.put _ (some 27) _ = _
              simp only [Act.put, List.setIfInBounds_toArray, List.set_cons_zero, List.set_cons_succ, i64_w, i32_w]
              rfl
            exact norm_ (by simp only [putAll, Act.put, List.setIfInBounds_toArray, List.set_cons_zero, List.set_cons_succ]) (hCont (.slice Ao21 t418.length co21, .slice Ao25 y421.length co25, v425, gb428) _ ⟨hHeld, (Kd.NM HO423.out (fun _ hk => ⟨hk.1.1.1, ⟨hk.2, ⟨hk.1.1.2, hk.1.2⟩⟩⟩)), (U HO426.out), (U BK412.out), (U BK428.out), GW428.out, GE428.out, NB412_428.out, NB428_412.out, BU⟩)
          skip
          refine box_step ?hg (N := 9) ?hd (cs := #[.slice none 0 0, .int .i64 0]) (t := 27) ?hr ?_; (case hd => rfl); (case hg => rfl); (case hr => first | (go_simp; done) | (go_simp; rfl))
          intro gb428 hg w21 hbox hb; replace HO420 := Aside0.mk (Kd.R_below (U HO420.out) hb); have BK428 := Aside0.mk (hbox); have GW428 := GS w hg; have GE428 := GS w hg; replace HB := BS hb; have NB412_428 := NL BK412 hg; have NB428_412 := NG BK412 hg; replace BK412 := bB BK412 hb; clear hb hbox hg; obtain ⟨Ao22, co22, eo22⟩ := Kd.R_slice HO420.out
          (first | subst eo22 | (injection eo22 with f1_ f2_ f3_; have f4_ := f1_.symm; have f5_ := f3_.symm; clear f1_ f2_ f3_; subst f4_; subst f5_))
          refine hK.out _ _ ⟨(blk_cell BK412.out 0).trans rfl, (blk_cell BK412.out 1).trans rfl⟩ (fun hHeld => ?_)
          clear hK K
          refine norm_ (a' := ?_) ?_ ?_
          rotate_left
          · show Act.put _ (some 9) _ = _
            simp only [Act.put, List.setIfInBounds_toArray, List.set_cons_zero, List.set_cons_succ, i64_w, i32_w]
            rfl
          refine one_ (i := 3) (N := some 24) #[true, true, true, true, true, true, false, true, false] rfl rfl (one_of HT_.out (by kernel_rfl)) (by decide) (fun K hK => ?_)
          refine Kd.N_lit_step (Kd.slice 3 (Kd.int .i64)) _ 23 ?hg (N' := 24) ?hd (xs := ([t418] : List (List Int))) (inner := [.slice Ao22 t418.length co22]) (ok := (fun k_ => (w.heap.size ≤ k_) ∧ k_ ≠ gb412 ∧ k_ ≠ gb428)) (okp := (fun k_ => (w.heap.size ≤ k_) ∧ k_ ≠ gb412 ∧ k_ ≠ gb428)) ?hr ?hp (fun _ hk => hk) ((show ∀ k_, w21.heap.size ≤ k_ → (fun k_ => (w.heap.size ≤ k_) ∧ k_ ≠ gb412 ∧ k_ ≠ gb428) k_ from fun k_ hk => ⟨(Nat.le_trans (below_size BU) hk), Kd.freshB (g := gb412) (o := .cells #[.slice A1_0 l1_0.length c1_0, .int .i64 a1_1] 27 (0, 0)) (U BK412.out) k_ hk, Kd.freshB (g := gb428) (o := .cells #[.slice none 0 0, .int .i64 0] 27 (0, 0)) (U BK428.out) k_ hk⟩) _ (Nat.le_refl _)) (Below.refl _ _) (Nat.le_refl _) (by simp) ?_; (case hd => rfl); (case hg => rfl); (case hr => first | (go_simp; done) | (go_simp; rfl)); (case hp => exact (Reps.one (show Kd.FK (Kd.slice 3 (Kd.int .i64)) _ _ t418 [.slice Ao22 t418.length co22] from (Kd.FK_slice_mk (Kd.R_reads' (Kd.R_mono (ok' := (fun k_ => (w.heap.size ≤ k_) ∧ k_ ≠ gb412 ∧ k_ ≠ gb428)) (Kd.R_types (Kd.R_types (HO420.out) BK412.out (by decide)) BK428.out (by decide)) (fun k_ hk => ⟨hk.1.1.1, ⟨hk.1.2, hk.2⟩⟩))).2.1 (Kd.R_F (Kd.R_mono (ok' := (fun k_ => (w.heap.size ≤ k_) ∧ k_ ≠ gb412 ∧ k_ ≠ gb428)) (Kd.R_types (Kd.R_types (HO420.out) BK412.out (by decide)) BK428.out (by decide)) (fun k_ hk => ⟨hk.1.1.1, ⟨hk.1.2, hk.2⟩⟩))))) (Reps.none _ _)))
          intro v422 w23 ho24 hb hg_ hnew_; clear hg_ hnew_
          (first | rw [← Ny421.out] at ho24 | (simp only [Int.reduceToNat] at ho24; rw [← Ny421.out] at ho24))
          have n0_ := Aside0.mk (Kd.N_lower ho24 (below_size BU)); have n1_ := bB BK412 hb; have n2_ := bB BK428 hb; have n3_ := BS hb; clear BK412 BK428; (try clear HB); clear HO420; have HO423 := n0_; have BK412 := n1_; have BK428 := n2_; have HB := n3_; clear n0_ n1_ n2_ n3_ hb ho24; obtain ⟨Ao25, co25, eo25⟩ := Kd.N_slice HO423.out
          (first | subst eo25 | (injection eo25 with f1_ f2_ f3_; have f4_ := f1_.symm; have f5_ := f3_.symm; clear f1_ f2_ f3_; subst f4_; subst f5_))
          refine hK.out _ _ ⟨(blk_cell BK412.out 0).trans rfl, (blk_cell BK412.out 1).trans rfl⟩ (fun hHeld => ?_)
          clear hK K
          refine norm_ (a' := ?_) ?_ ?_
          rotate_left
          · show Act.put _ (some 24) _ = _
            simp only [Act.put, List.setIfInBounds_toArray, List.set_cons_zero, List.set_cons_succ, i64_w, i32_w]
            rfl
          refine one_ (i := 6) (N := some 27) #[true, true, true, true, true, true, true, true, false] rfl rfl (one_of HT_.out (by kernel_rfl)) (by decide) (fun K hK => ?_)
          refine goes_ Try.func68 (by kernel_rfl) rfl #[.slice Ao25 y421.length co25, .int .i64 a1_1] (by rfl) rfl rfl (by (try simp only [List.map_toArray, List.map_cons, List.map_nil]); first | done | rfl | (simp only [List.length_drop, List.length_take]; rfl)) ?_
          with_reducible refine (spec_l7Low.calls kj3 _ _ y421 a1_1 t424 t427 _ ?side1 ?side2 A17.out).mono ?_
          (case side1 => exact U ((Kd.N_reads' HO423.out).2.2))
          (case side2 => exact (Kd.N_reads' HO423.out).2.1)
          rintro e w26 ⟨v425, rfl, ho0, hb⟩
          refine ⟨_, rfl, ?_⟩
          have HO426 := Aside0.mk (Kd.N_lower (Kd.N_mono (ok' := fun k_ => (w.heap.size ≤ k_) ∧ some k_ ≠ (.slice Ao25 y421.length co25 : Value).ownBlock ∧ k_ ≠ gb412 ∧ k_ ≠ gb428) (Kd.S_N (Kd.S_bound ho0)) (fun k_ hk_ => ⟨(Nat.le_trans (below_size BU) hk_.2.1), (Kd.fresh' (Kd.N_lt (U HO423.out)) k_ hk_.2.1), (Kd.freshB (g := gb412) (o := .cells #[.slice A1_0 l1_0.length c1_0, .int .i64 a1_1] 27 (0, 0)) (U BK412.out) k_ hk_.2.1), (Kd.freshB (g := gb428) (o := .cells #[.slice none 0 0, .int .i64 0] 27 (0, 0)) (U BK428.out) k_ hk_.2.1)⟩)) (below_size BU)); replace HO423 := Aside0.mk (Kd.N_elder' (U HO423.out) (by first | exact Kd.N_base ho0 | exact Kd.S_base ho0) hb); replace BK412 := bB BK412 hb; replace BK428 := bB BK428 hb; replace HB := BS hb; (try clear hb); (try clear hb2); (try clear hk); (try clear hi); (try clear ho0)
          refine hK.out _ _ ⟨(blk_cell BK412.out 0).trans rfl, (blk_cell BK412.out 1).trans rfl⟩ (fun hHeld => ?_)
          clear hK K
          refine norm_ (a' := ?_) ?_ ?_
          rotate_left
          · show Act.put _ (some 27) _ = _
            simp only [Act.put, List.setIfInBounds_toArray, List.set_cons_zero, List.set_cons_succ, i64_w, i32_w]
            rfl
          exact norm_ (by simp only [putAll, Act.put, List.setIfInBounds_toArray, List.set_cons_zero, List.set_cons_succ]) (hCont (.slice Ao22 t418.length co22, .slice Ao25 y421.length co25, v425, gb428) _ ⟨hHeld, (Kd.NM HO423.out (fun _ hk => ⟨hk.1.1, ⟨hk.2, ⟨hk.1.2.1, hk.1.2.2⟩⟩⟩)), (U HO426.out), (U BK412.out), (U BK428.out), GW428.out, GE428.out, NB412_428.out, NB428_412.out, BU⟩)
        skip
        refine box_step ?hg (N := 9) ?hd (cs := #[.slice none 0 0, .int .i64 0]) (t := 27) ?hr ?_; (case hd => rfl); (case hg => rfl); (case hr => first | (go_simp; done) | (go_simp; rfl))
        intro gb428 hg w20 hbox hb; have BK428 := Aside0.mk (hbox); have GW428 := GS w hg; have GE428 := GS w hg; replace HB := BS hb; have NB412_428 := NL BK412 hg; have NB428_412 := NG BK412 hg; replace BK412 := bB BK412 hb; clear hb hbox hg
        refine hK.out _ _ ⟨(blk_cell BK412.out 0).trans rfl, (blk_cell BK412.out 1).trans rfl⟩ (fun hHeld => ?_)
        clear hK K
        refine norm_ (a' := ?_) ?_ ?_
        rotate_left
        · show Act.put _ (some 9) _ = _
          simp only [Act.put, List.setIfInBounds_toArray, List.set_cons_zero, List.set_cons_succ, i64_w, i32_w]
          rfl
        refine one_ (i := 2) (N := some 23) #[true, true, true, false, true, true, false, true, false] rfl rfl (one_of HT_.out (by kernel_rfl)) (by decide) (fun K hK => ?_)
        refine goes_ Try.func69 (by kernel_rfl) rfl #[.agg #[.slice A1_0 l1_0.length c1_0, .int .i64 a1_1], .slice A2 l2.length c2] (by rfl) rfl rfl (by (try simp only [List.map_toArray, List.map_cons, List.map_nil]); first | done | rfl | (simp only [List.length_drop, List.length_take]; rfl)) ?_
        with_reducible refine (spec_l7On.calls kj3 _ _ l1_0 a1_1 _ _ l2 t418 _ ?side1 ?side2 ?side3 ?side4 A16.out).mono ?_
        (case side1 => exact U (Kd.C_below HR1_0.out HB.out))
        (case side2 => exact HC1_0.out)
        (case side3 => exact U (Kd.C_below HR2.out HB.out))
        (case side4 => exact HC2.out)
        rintro e w21 ⟨v419, rfl, ho0, hb⟩
        refine ⟨_, rfl, ?_⟩
        have HO420 := Aside0.mk (Kd.R_lower (Kd.R_newM (M := fun k_ => (w.heap.size ≤ k_)) ho0 (below_size BU) (fun k_ h_ => h_)) (below_size BU)); replace BK412 := bB BK412 hb; replace BK428 := bB BK428 hb; replace HB := BS hb; (try clear hb); (try clear hb2); (try clear hk); (try clear hi); (try clear ho0); obtain ⟨Ao22, co22, eo22⟩ := Kd.R_slice HO420.out
        (first | subst eo22 | (injection eo22 with f1_ f2_ f3_; have f4_ := f1_.symm; have f5_ := f3_.symm; clear f1_ f2_ f3_; subst f4_; subst f5_))
        refine hK.out _ _ ⟨(blk_cell BK412.out 0).trans rfl, (blk_cell BK412.out 1).trans rfl⟩ (fun hHeld => ?_)
        clear hK K
        refine norm_ (a' := ?_) ?_ ?_
        rotate_left
        · show Act.put _ (some 23) _ = _
          simp only [Act.put, List.setIfInBounds_toArray, List.set_cons_zero, List.set_cons_succ, i64_w, i32_w]
          rfl
        refine one_ (i := 3) (N := some 24) #[true, true, true, true, true, true, false, true, false] rfl rfl (one_of HT_.out (by kernel_rfl)) (by decide) (fun K hK => ?_)
        refine Kd.N_lit_step (Kd.slice 3 (Kd.int .i64)) _ 23 ?hg (N' := 24) ?hd (xs := ([t418] : List (List Int))) (inner := [.slice Ao22 t418.length co22]) (ok := (fun k_ => (w.heap.size ≤ k_) ∧ k_ ≠ gb412 ∧ k_ ≠ gb428)) (okp := (fun k_ => (w.heap.size ≤ k_) ∧ k_ ≠ gb412 ∧ k_ ≠ gb428)) ?hr ?hp (fun _ hk => hk) ((show ∀ k_, w21.heap.size ≤ k_ → (fun k_ => (w.heap.size ≤ k_) ∧ k_ ≠ gb412 ∧ k_ ≠ gb428) k_ from fun k_ hk => ⟨(Nat.le_trans (below_size BU) hk), Kd.freshB (g := gb412) (o := .cells #[.slice A1_0 l1_0.length c1_0, .int .i64 a1_1] 27 (0, 0)) (U BK412.out) k_ hk, Kd.freshB (g := gb428) (o := .cells #[.slice none 0 0, .int .i64 0] 27 (0, 0)) (U BK428.out) k_ hk⟩) _ (Nat.le_refl _)) (Below.refl _ _) (Nat.le_refl _) (by simp) ?_; (case hd => rfl); (case hg => rfl); (case hr => first | (go_simp; done) | (go_simp; rfl)); (case hp => exact (Reps.one (show Kd.FK (Kd.slice 3 (Kd.int .i64)) _ _ t418 [.slice Ao22 t418.length co22] from (Kd.FK_slice_mk (Kd.R_reads' (Kd.R_mono (ok' := (fun k_ => (w.heap.size ≤ k_) ∧ k_ ≠ gb412 ∧ k_ ≠ gb428)) (Kd.R_types (Kd.R_types (HO420.out) BK412.out (by decide)) BK428.out (by decide)) (fun k_ hk => ⟨hk.1.1.1, ⟨hk.1.2, hk.2⟩⟩))).2.1 (Kd.R_F (Kd.R_mono (ok' := (fun k_ => (w.heap.size ≤ k_) ∧ k_ ≠ gb412 ∧ k_ ≠ gb428)) (Kd.R_types (Kd.R_types (HO420.out) BK412.out (by decide)) BK428.out (by decide)) (fun k_ hk => ⟨hk.1.1.1, ⟨hk.1.2, hk.2⟩⟩))))) (Reps.none _ _)))
        intro v422 w23 ho24 hb hg_ hnew_; clear hg_ hnew_
        (first | rw [← Ny421.out] at ho24 | (simp only [Int.reduceToNat] at ho24; rw [← Ny421.out] at ho24))
        have n0_ := Aside0.mk (Kd.N_lower ho24 (below_size BU)); have n1_ := bB BK412 hb; have n2_ := bB BK428 hb; have n3_ := BS hb; clear BK412 BK428; (try clear HB); clear HO420; have HO423 := n0_; have BK412 := n1_; have BK428 := n2_; have HB := n3_; clear n0_ n1_ n2_ n3_ hb ho24; obtain ⟨Ao25, co25, eo25⟩ := Kd.N_slice HO423.out
        (first | subst eo25 | (injection eo25 with f1_ f2_ f3_; have f4_ := f1_.symm; have f5_ := f3_.symm; clear f1_ f2_ f3_; subst f4_; subst f5_))
        refine hK.out _ _ ⟨(blk_cell BK412.out 0).trans rfl, (blk_cell BK412.out 1).trans rfl⟩ (fun hHeld => ?_)
        clear hK K
        refine norm_ (a' := ?_) ?_ ?_
        rotate_left
        · show Act.put _ (some 24) _ = _
          simp only [Act.put, List.setIfInBounds_toArray, List.set_cons_zero, List.set_cons_succ, i64_w, i32_w]
          rfl
        refine one_ (i := 6) (N := some 27) #[true, true, true, true, true, true, true, true, false] rfl rfl (one_of HT_.out (by kernel_rfl)) (by decide) (fun K hK => ?_)
        refine goes_ Try.func68 (by kernel_rfl) rfl #[.slice Ao25 y421.length co25, .int .i64 a1_1] (by rfl) rfl rfl (by (try simp only [List.map_toArray, List.map_cons, List.map_nil]); first | done | rfl | (simp only [List.length_drop, List.length_take]; rfl)) ?_
        with_reducible refine (spec_l7Low.calls kj3 _ _ y421 a1_1 t424 t427 _ ?side1 ?side2 A17.out).mono ?_
        (case side1 => exact U ((Kd.N_reads' HO423.out).2.2))
        (case side2 => exact (Kd.N_reads' HO423.out).2.1)
        rintro e w26 ⟨v425, rfl, ho0, hb⟩
        refine ⟨_, rfl, ?_⟩
        have HO426 := Aside0.mk (Kd.N_lower (Kd.N_mono (ok' := fun k_ => (w.heap.size ≤ k_) ∧ some k_ ≠ (.slice Ao25 y421.length co25 : Value).ownBlock ∧ k_ ≠ gb412 ∧ k_ ≠ gb428) (Kd.S_N (Kd.S_bound ho0)) (fun k_ hk_ => ⟨(Nat.le_trans (below_size BU) hk_.2.1), (Kd.fresh' (Kd.N_lt (U HO423.out)) k_ hk_.2.1), (Kd.freshB (g := gb412) (o := .cells #[.slice A1_0 l1_0.length c1_0, .int .i64 a1_1] 27 (0, 0)) (U BK412.out) k_ hk_.2.1), (Kd.freshB (g := gb428) (o := .cells #[.slice none 0 0, .int .i64 0] 27 (0, 0)) (U BK428.out) k_ hk_.2.1)⟩)) (below_size BU)); replace HO423 := Aside0.mk (Kd.N_elder' (U HO423.out) (by first | exact Kd.N_base ho0 | exact Kd.S_base ho0) hb); replace BK412 := bB BK412 hb; replace BK428 := bB BK428 hb; replace HB := BS hb; (try clear hb); (try clear hb2); (try clear hk); (try clear hi); (try clear ho0)
        refine hK.out _ _ ⟨(blk_cell BK412.out 0).trans rfl, (blk_cell BK412.out 1).trans rfl⟩ (fun hHeld => ?_)
        clear hK K
        refine norm_ (a' := ?_) ?_ ?_
        rotate_left
        · show Act.put _ (some 27) _ = _
          simp only [Act.put, List.setIfInBounds_toArray, List.set_cons_zero, List.set_cons_succ, i64_w, i32_w]
          rfl
        exact norm_ (by simp only [putAll, Act.put, List.setIfInBounds_toArray, List.set_cons_zero, List.set_cons_succ]) (hCont (.slice Ao22 t418.length co22, .slice Ao25 y421.length co25, v425, gb428) _ ⟨hHeld, (Kd.NM HO423.out (fun _ hk => ⟨hk.1.1, ⟨hk.2, ⟨hk.1.2.1, hk.1.2.2⟩⟩⟩)), (U HO426.out), (U BK412.out), (U BK428.out), GW428.out, GE428.out, NB412_428.out, NB428_412.out, BU⟩)
      rintro ⟨v419, v422, v425, gb428⟩ w27 ⟨hS_, h0_, h1_, h2_, h3_, h4_, h5_, h6_, h7_, h8_⟩; have n0_ : Aside0 (Kd.N (Kd.slice 3 (Kd.int .i64)) 23 w27 w.heap.size (fun k_ => (w.heap.size ≤ k_) ∧ some k_ ≠ (v425 : Value).ownBlock ∧ k_ ≠ gb412 ∧ k_ ≠ gb428) v422 y421) := ⟨h0_⟩; have n1_ : Aside0 (Kd.N (Kd.slice 3 (Kd.int .i64)) 23 w27 w.heap.size (fun k_ => (w.heap.size ≤ k_) ∧ some k_ ≠ (v422 : Value).ownBlock ∧ k_ ≠ gb412 ∧ k_ ≠ gb428) v425 t424) := ⟨h1_⟩; have n2_ : Aside0 (w27.heap[gb412]? = some (.cells #[.slice A1_0 l1_0.length c1_0, .int .i64 a1_1] 27 (0, 0))) := ⟨h2_⟩; have n3_ : Aside0 (w27.heap[gb428]? = some (.cells #[.slice none 0 0, .int .i64 0] 27 (0, 0))) := ⟨h3_⟩; have n4_ : Aside0 (w.heap.size ≤ gb428) := ⟨h4_⟩; have n5_ : Aside0 (w.heap.size ≤ gb428) := ⟨h5_⟩; have n6_ : Aside0 (gb412 ≠ gb428) := ⟨h6_⟩; have n7_ : Aside0 (gb428 ≠ gb412) := ⟨h7_⟩; have n8_ : Aside0 (Below w.heap.size w w27) := ⟨h8_⟩; clear BK412; (try clear HB); clear h0_ h1_ h2_ h3_ h4_ h5_ h6_ h7_ h8_; have HO423 := n0_; have HO426 := n1_; have BK412 := n2_; have BK428 := n3_; have GW428 := n4_; have GE428 := n5_; have NB412_428 := n6_; have NB428_412 := n7_; have HB := n8_; clear n0_ n1_ n2_ n3_ n4_ n5_ n6_ n7_ n8_; have hHeld : w27.cell? ⟨gb412, 0, none⟩ = some (.slice A1_0 l1_0.length c1_0) ∧ w27.cell? ⟨gb412, 1, none⟩ = some (.int .i64 a1_1) := hS_; obtain ⟨Ao28, co28, eo28⟩ := Kd.N_slice HO426.out
      (first | subst eo28 | (injection eo28 with f1_ f2_ f3_; have f4_ := f1_.symm; have f5_ := f3_.symm; clear f1_ f2_ f3_; subst f4_; subst f5_))
      refine norm_ (a' := ?_) ?_ ?_
      rotate_left
      · simp only [putAll, Act.put, List.setIfInBounds_toArray, List.set_cons_zero, List.set_cons_succ]
        rfl
      refine one_ (i := 8) (N := none) #[true, true, true, true, true, true, true, true, true] rfl rfl (one_of HT_.out (by kernel_rfl)) (by decide) (fun K hK => ?_)
      have hs29 : w27.cell? ⟨gb428, 0, none⟩ = some (.slice none 0 0) := (blk_cell BK428.out 0).trans rfl; have hfs29 := blk_frozen BK428.out 0; have hns29_0 := NB412_428.out; have hms29_0 := NB428_412.out; have hs30 : w27.cell? ⟨gb428, 1, none⟩ = some (.int .i64 0) := (blk_cell BK428.out 1).trans rfl; have hfs30 := blk_frozen BK428.out 1; have hns30_0 := NB412_428.out; have hms30_0 := NB428_412.out
      refine skip_ (w1 := ?_) (by rfl) rfl ?_ ?_
      rotate_left
      · go_simp
        rfl
      refine hK.out _ _ ⟨((cell_far (p := ⟨gb428, _, none⟩) NB412_428.out _).trans (((cell_far (p := ⟨gb428, _, none⟩) NB412_428.out _).trans (hHeld.1)))), ((cell_far (p := ⟨gb428, _, none⟩) NB412_428.out _).trans (((cell_far (p := ⟨gb428, _, none⟩) NB412_428.out _).trans (hHeld.2))))⟩ (fun hHeld => ?_)
      clear hK K
      refine done_ (done_of HT_.out (by kernel_rfl)) ?_
      try go_wp2
      have n0_ : Aside0 (Kd.N (Kd.slice 3 (Kd.int .i64)) 23 ((w27.setCell ⟨gb428, 0, none⟩ (.slice Ao28 t424.length co28)).setCell ⟨gb428, 1, none⟩ (.int .i64 t427)) w.heap.size (fun k_ => (w.heap.size ≤ k_) ∧ some k_ ≠ (.slice Ao28 t424.length co28 : Value).ownBlock ∧ k_ ≠ gb412 ∧ k_ ≠ gb428) v422 y421) := ⟨Kd.NM (Kd.N_far (p := ⟨gb428, 1, none⟩) (Kd.N_far (p := ⟨gb428, 0, none⟩) (Kd.N_mono HO423.out (fun k_ hk => (⟨hk, hk.2.2.2⟩ : _ ∧ k_ ≠ gb428))) (fun _ hk => hk.2) (.slice Ao28 t424.length co28)) (fun _ hk => hk.2) (.int .i64 t427)) (fun _ hk => ⟨hk.1.1, ⟨hk.1.2.1, ⟨hk.1.2.2.1, hk.1.2.2.2⟩⟩⟩)⟩; have n1_ : Aside0 (Kd.N (Kd.slice 3 (Kd.int .i64)) 23 ((w27.setCell ⟨gb428, 0, none⟩ (.slice Ao28 t424.length co28)).setCell ⟨gb428, 1, none⟩ (.int .i64 t427)) w.heap.size (fun k_ => (w.heap.size ≤ k_) ∧ some k_ ≠ (v422 : Value).ownBlock ∧ k_ ≠ gb412 ∧ k_ ≠ gb428) (.slice Ao28 t424.length co28) t424) := ⟨Kd.NM (Kd.N_far (p := ⟨gb428, 1, none⟩) (Kd.N_far (p := ⟨gb428, 0, none⟩) (Kd.N_mono HO426.out (fun k_ hk => (⟨hk, hk.2.2.2⟩ : _ ∧ k_ ≠ gb428))) (fun _ hk => hk.2) (.slice Ao28 t424.length co28)) (fun _ hk => hk.2) (.int .i64 t427)) (fun _ hk => ⟨hk.1.1, ⟨hk.1.2.1, ⟨hk.1.2.2.1, hk.1.2.2.2⟩⟩⟩)⟩
      have n2_ : Aside0 (((w27.setCell ⟨gb428, 0, none⟩ (.slice Ao28 t424.length co28)).setCell ⟨gb428, 1, none⟩ (.int .i64 t427)).heap[gb412]? = some (.cells #[.slice A1_0 l1_0.length c1_0, .int .i64 a1_1] 27 (0, 0))) := ⟨by (with_reducible repeat (first | refine blk_drewN ?_ _ | refine blk_drew ?_ | refine blk_alloc ?_ _)); refine blk_far ?_ NB412_428.out _; (with_reducible repeat (first | refine blk_drewN ?_ _ | refine blk_drew ?_ | refine blk_alloc ?_ _)); refine blk_far ?_ NB412_428.out _; (with_reducible repeat (first | refine blk_drewN ?_ _ | refine blk_drew ?_ | refine blk_alloc ?_ _)); exact BK412.out⟩
      have n3_ : Aside0 (((w27.setCell ⟨gb428, 0, none⟩ (.slice Ao28 t424.length co28)).setCell ⟨gb428, 1, none⟩ (.int .i64 t427)).heap[gb428]? = some (.cells #[.slice Ao28 t424.length co28, .int .i64 t427] 27 (0, 0))) := ⟨by (with_reducible repeat (first | refine blk_drewN ?_ _ | refine blk_drew ?_ | refine blk_alloc ?_ _)); refine blk_put (cs := #[.slice Ao28 t424.length co28, .int .i64 0]) ?_ 1 _ rfl; (with_reducible repeat (first | refine blk_drewN ?_ _ | refine blk_drew ?_ | refine blk_alloc ?_ _)); refine blk_put (cs := #[.slice none 0 0, .int .i64 0]) ?_ 0 _ rfl; (with_reducible repeat (first | refine blk_drewN ?_ _ | refine blk_drew ?_ | refine blk_alloc ?_ _)); exact BK428.out⟩
      have n4_ : Aside0 (Below w.heap.size w ((w27.setCell ⟨gb428, 0, none⟩ (.slice Ao28 t424.length co28)).setCell ⟨gb428, 1, none⟩ (.int .i64 t427))) := ⟨BU⟩; (try clear HO423); (try clear HO426); (try clear BK412); (try clear BK428)
      (try try clear HB)
      generalize ((w27.setCell ⟨gb428, 0, none⟩ (.slice Ao28 t424.length co28)).setCell ⟨gb428, 1, none⟩ (.int .i64 t427)) = w31 at n0_ n1_ n2_ n3_ n4_ ⊢; have HO423 := n0_; have HO426 := n1_; have BK412 := n2_; have BK428 := n3_; have HB := n4_; clear n0_ n1_ n2_ n3_ n4_; replace HO423 := Aside0.mk (Kd.N_drew HO423.out); replace HO426 := Aside0.mk (Kd.N_drew HO426.out); replace BK412 := Aside0.mk (blk_drew BK412.out); replace BK428 := Aside0.mk (blk_drew BK428.out); replace HB := Aside0.mk (below_drew1 HB.out); have p429 : 0 ≤ (0 : Int) := (by omega); have q429 : 0 < (t424.length : Int) := oD; obtain ⟨ad429, A429_0, c429_0, e429, hx429_0, hl429_0, hi429_0⟩ := at_L2 (Kd.N_reads' HO426.out).2.2 0 p429 q429; cases e429; obtain ⟨ce429, hce429, hMe429, hcc429⟩ := Kd.N_get HO426.out [] 0 p429 (by first | exact q429 | exact oD | (have e_ := (Kd.N_reads' HO426.out).1; omega)); obtain ⟨ua429_0, uc429_0, rfl, ul429_0, ge429_0⟩ := Kd.FK_slice_open hMe429; have hv429_0 := hcc429 0 _ rfl; rw [Nat.add_zero, show ((Kd.slice 3 (Kd.int .i64))).sz = 1 from rfl, Nat.mul_one] at hv429_0; replace hv429_0 := Option.some.inj (hv429_0.symm.trans hx429_0)
      injection hv429_0 with hva_ hvn_ hvc_
      rw [hva_] at ge429_0; rw [hvc_] at ul429_0; have HL429_0 := Aside0.mk (show Kd.V (Kd.int .i64) 3 _ w.heap.size _ _ (rd_L2 t424 0) from Kd.V_mk ul429_0 ge429_0); clear hva_ hvn_ hvc_ ge429_0 ul429_0 hcc429 hce429; have qi429 : (0 < t424.length) = True := eq_true (by omega)
      (try rw [show ((0 : Int)).toNat = 0 from rfl] at hx429_0)
      (try rw [Addr.add_zero'] at hx429_0)
      have HR429_0 := Aside0.mk hi429_0; have HC429_0 := Aside0.mk hl429_0; clear hi429_0 hl429_0; replace p429 := eq_true p429; replace q429 := eq_true q429
      refine start_ (n := 9) (S := fun w' => w'.cell? ⟨gb428, 0, none⟩ = some (.slice (some ad429) t424.length co28) ∧ w'.cell? ⟨gb428, 1, none⟩ = some (.int .i64 t427) ∧ w'.cell? ad429 = some (.slice A429_0 (rd_L2 t424 0).length c429_0)) (ds := []) #[false, false, false, false, false, false, false, false, false] (by kernel_rfl) rfl rfl ⟨(blk_cell BK428.out 0).trans rfl, (blk_cell BK428.out 1).trans rfl, hx429_0⟩ (fun hHeld => ?_); refine with_tabW spec_MoveOn.tab4 spec_MoveOn.bits4 (fun HT_ HW_ => ?_)
      generalize w31.drew = w32 at HO423 HO426 BK412 BK428 HB HL429_0 HR429_0 hx429_0 hHeld ⊢
      refine pure_ (i := 0) (N := some 28) (v := ?_) (a' := ?_) #[true, false, false, false, false, false, false, false, false] rfl rfl (any_of HT_.out (by kernel_rfl)) (fun _ _ _ h => h) (Or.inl ⟨by rfl, ?_⟩) ?_ ?_
      rotate_left
      · intro w'
        go_simp
        with_reducible rfl
      rotate_left
      · simp only [Act.put, List.setIfInBounds_toArray, List.set_cons_zero, List.set_cons_succ, i64_w, i32_w]
        rfl
      refine pure_ (i := 4) (N := some 32) (v := ?_) (a' := ?_) #[true, false, false, false, true, false, false, false, false] rfl rfl (any_of HT_.out (by kernel_rfl)) (fun _ _ _ h => h) (Or.inl ⟨by rfl, ?_⟩) ?_ ?_
      rotate_left
      · intro w'
        go_simp
        with_reducible rfl
      rotate_left
      · simp only [Act.put, List.setIfInBounds_toArray, List.set_cons_zero, List.set_cons_succ, i64_w, i32_w]
        rfl
      refine take_ (i := 1) (N := some 29) (v := ?_) (a' := ?_) #[true, true, false, false, true, false, false, false, false] rfl rfl (take_ofW HT_.out HW_.out (by kernel_rfl)) (fun _ _ _ h => h) (Or.inl ⟨by rfl, ?_⟩) hHeld ?_ ?_
      rotate_left
      · rintro w' ⟨s0, s1, s2⟩
        go_simp
        with_reducible rfl
      rotate_left
      · simp only [Act.put, List.setIfInBounds_toArray, List.set_cons_zero, List.set_cons_succ, i64_w, i32_w]
        rfl
      refine pure_ (i := 2) (N := some 30) (v := ?_) (a' := ?_) #[true, true, true, false, true, false, false, false, false] rfl rfl (any_of HT_.out (by kernel_rfl)) (fun _ _ _ h => h) (Or.inl ⟨by rfl, ?_⟩) ?_ ?_
      rotate_left
      · intro w'
        go_simp
        with_reducible rfl
      rotate_left
      · simp only [Act.put, List.setIfInBounds_toArray, List.set_cons_zero, List.set_cons_succ, i64_w, i32_w]
        rfl
      refine take_ (i := 3) (N := some 31) (v := ?_) (a' := ?_) #[true, true, true, true, true, false, false, false, false] rfl rfl (take_ofW HT_.out HW_.out (by kernel_rfl)) (fun _ _ _ h => h) (Or.inl ⟨by rfl, ?_⟩) hHeld ?_ ?_
      rotate_left
      · rintro w' ⟨s0, s1, s2⟩
        go_simp
        with_reducible rfl
      rotate_left
      · simp only [Act.put, List.setIfInBounds_toArray, List.set_cons_zero, List.set_cons_succ, i64_w, i32_w]
        rfl
      refine pure_ (i := 6) (N := some 6) (v := ?_) (a' := ?_) #[true, true, true, true, true, false, true, false, false] rfl rfl (any_of HT_.out (by kernel_rfl)) (fun _ _ _ h => h) (Or.inl ⟨by rfl, ?_⟩) ?_ ?_
      rotate_left
      · intro w'
        go_simp
        with_reducible rfl
      rotate_left
      · simp only [Act.put, List.setIfInBounds_toArray, List.set_cons_zero, List.set_cons_succ, i64_w, i32_w]
        rfl
      refine take_ (i := 5) (N := some 33) (v := ?_) (a' := ?_) #[true, true, true, true, true, true, true, false, false] rfl rfl (take_ofW HT_.out HW_.out (by kernel_rfl)) (fun _ _ _ h => h) (Or.inl ⟨by rfl, ?_⟩) hHeld ?_ ?_
      rotate_left
      · rintro w' ⟨s0, s1, s2⟩
        go_simp
        with_reducible rfl
      rotate_left
      · simp only [Act.put, List.setIfInBounds_toArray, List.set_cons_zero, List.set_cons_succ, i64_w, i32_w]
        rfl
      refine pure_ (i := 7) (N := some 7) (v := ?_) (a' := ?_) #[true, true, true, true, true, true, true, true, false] rfl rfl (any_of HT_.out (by kernel_rfl)) (fun _ _ _ h => h) (Or.inl ⟨by rfl, ?_⟩) ?_ ?_
      rotate_left
      · intro w'
        go_simp
        with_reducible rfl
      rotate_left
      · simp only [Act.put, List.setIfInBounds_toArray, List.set_cons_zero, List.set_cons_succ, i64_w, i32_w]
        rfl
      refine pure_ (i := 8) (N := some 8) (v := ?_) (a' := ?_) #[true, true, true, true, true, true, true, true, true] rfl rfl (any_of HT_.out (by kernel_rfl)) (fun _ _ _ h => h) (Or.inl ⟨by rfl, ?_⟩) ?_ ?_
      rotate_left
      · intro w'
        go_simp
        with_reducible rfl
      rotate_left
      · simp only [Act.put, List.setIfInBounds_toArray, List.set_cons_zero, List.set_cons_succ, i64_w, i32_w]
        rfl
      refine done_ (done_of HT_.out (by kernel_rfl)) ?_
      try go_wp2
      go_ret3
      exact ⟨_, eR, Kd.VM HL429_0.out (fun _ hk => hk.1.1), BU⟩

end Go.Proofs.Ytnbeeogmaamgdaa.PFnOn
