-- Written by a program of this session (wip/print2.py): the functions that the law reaches, plain, and the walks.
import Derived.Test.YtnbeeogmaamgdaaPFnCarryx0
namespace Go.Proofs.Ytnbeeogmaamgdaa.PFnCarry
open Go.RowKit Go.Proofs.YtnbeeogmaamgdaaW.PrintWords Go.Proofs.YtnbeeogmaamgdaaW.PrintLast Go.Proofs.YtnbeeogmaamgdaaW.PrintMore
attribute [local go_sem] max2_int min2_int max_two min_two max_three min_three max_four min_four   -- for this text's walks alone
set_option linter.unusedVariables false
set_option linter.unusedSimpArgs false

/-! ### spec_l7Mix: function 76 -/
def spec_l7Mix.l0 : Nat → List Int → List Int → Int → List Int → Int → Option (List Int)
  | 0, _, _, _, _, _ => none
  | k + 1, x0, x1, x2, x7, x8 => if x8 < (x0.length : Int) then (if 0 ≤ x8 then (if x8 < (x1.length : Int) then (if x7.length < 17592186044416 then (spec_l7Mix.l0 k x0 x1 x2 (x7 ++ [wrap64 ((rd x0 x8) + (wrap64 (x2 * (rd x1 x8))))]) (wrap64 (x8 + 1))) else (none)) else (none)) else (none)) else (some x7)
def spec_l7Mix.f (k : Nat) (l0 : List Int) (l1 : List Int) (a2 : Int) : Option (List Int) := spec_l7Mix.l0 k l0 l1 a2 (([] : List Int)) 0
theorem spec_l7Mix.mono_l : ∀ k, (∀ y0 y1 y2 y3 y4, LeO (spec_l7Mix.l0 k y0 y1 y2 y3 y4) (spec_l7Mix.l0 (k + 1) y0 y1 y2 y3 y4))
  | 0 => fun _ _ _ _ _ r h => by simp [spec_l7Mix.l0] at h
  | k + 1 => by
    have ih0 := spec_l7Mix.mono_l k
    · intro y0 y1 y2 y3 y4
      unfold spec_l7Mix.l0
      repeat' first
      | (with_reducible exact ih0 _ _ _ _ _)
      | (with_reducible exact LeO.refl _)
      | (with_reducible exact LeO.none _)
      | (with_reducible refine LeO.ite ?_ ?_)
      | (with_reducible refine LeO.bind ?_ (fun _ => ?_))
      | exact ih0 _ _ _ _ _
      | exact LeO.none _
      | refine LeO.ite ?_ ?_
      | refine LeO.bind ?_ (fun _ => ?_)
theorem spec_l7Mix.mono : ∀ a0 a1 a2 k, LeO (spec_l7Mix.f k a0 a1 a2) (spec_l7Mix.f (k + 1) a0 a1 a2) := by
  intro a0 a1 a2 k
  have ih0 := spec_l7Mix.mono_l k
  unfold spec_l7Mix.f
  repeat' first
      | (with_reducible exact ih0 _ _ _ _ _)
      | (with_reducible exact LeO.refl _)
      | (with_reducible exact LeO.none _)
      | (with_reducible refine LeO.ite ?_ ?_)
      | (with_reducible refine LeO.bind ?_ (fun _ => ?_))
      | exact ih0 _ _ _ _ _
      | exact LeO.none _
      | refine LeO.ite ?_ ?_
      | refine LeO.bind ?_ (fun _ => ?_)
def spec_l7Mix.T5 : Bool × List (List Nat × List Nat) := (true, [([], []), ([], []), ([], []), ([1, 2], [1, 2]), ([3], [3]), ([], []), ([], []), ([], []), ([6, 7], [6, 7]), ([8], [8]), ([5, 9], [5, 9]), ([4, 10], [4, 10]), ([11], [11]), ([0, 12], [0, 12]), ([13, 13, 0, 1, 2, 3, 4, 5, 6, 7, 8, 9, 10, 11, 12, 13], [0, 13])])
def spec_l7Mix.B5 : List Nat := [0, 0, 0, 6, 14, 0, 0, 0, 192, 448, 992, 2046, 4094, 8191, 16383]
theorem spec_l7Mix.tab5 : rtab .any (opsOf Try.f76 5) = spec_l7Mix.T5 := by kernel_rfl
theorem spec_l7Mix.bits5 : waitsOk spec_l7Mix.T5.2 spec_l7Mix.B5 = true := by kernel_rfl
set_option maxHeartbeats 8000000 in
set_option maxRecDepth 100000 in
theorem spec_l7Mix.calls (k : Nat) (A0 : Option Addr) (c0 : Nat) (l0 : List Int) (A1 : Option Addr) (c1 : Nat) (l1 : List Int) (a2 : Int) (r : List Int) (w : World) (hr0 : Kd.C (Kd.int .i64) w A0 l0.length l0) (hc0 : l0.length ≤ c0) (hr1 : Kd.C (Kd.int .i64) w A1 l1.length l1) (hc1 : l1.length ≤ c1) (h : spec_l7Mix.f k l0 l1 a2 = some r) :
    Calls Try.prog 76 #[.slice A0 l0.length c0, .slice A1 l1.length c1, .int .i64 a2] w fun e w' => ∃ v0_ : Value, e = .returned (v0_) ∧ Kd.R (Kd.int .i64) 3 w' w.heap.size (fun _ => True) v0_ r ∧ Below w.heap.size w w' := by
  have HR0 := Aside0.mk hr0; have HC0 := Aside0.mk hc0; clear hr0 hc0; have HR1 := Aside0.mk hr1; have HC1 := Aside0.mk hc1; clear hr1 hc1; have HB := Aside0.mk (Below.refl w.heap.size w); unfold spec_l7Mix.f at h; have H := h; clear h; obtain ⟨y358, hy358⟩ : ∃ y_ : List Int, y_ = (([] : List Int)) := ⟨_, rfl⟩; replace H : (spec_l7Mix.l0 k l0 l1 a2 y358 0) = some r := rH hy358 H; have Ny358 := Aside0.mk hy358; clear hy358; have H' := Aside0.mk H; clear H; go_enter Try.func76, Try.ntmps76
  go_wp2_with (first | ((with_reducible refine gate_dst (N := 9) rfl ?_); refine Kd.R_lit (Kd.int .i64) _ 3 ?hg (N := 9) ?hd (xs := ([] : List Int)) (inner := []) (ok := fun _ => True) (okp := fun _ => True) ?hr ?hp (fun _ hk => hk) trivial (Below.refl _ _) (Nat.le_refl _) (by simp) ?_; (case hd => rfl); (case hg => rfl); (case hr => first | (go_simp; done) | (go_simp; rfl)); (case hp => exact (Reps.none _ _)); intro v359 w4 ho5 hb hg_ hnew_; clear hg_ hnew_; (first | rw [← Ny358.out] at ho5 | (simp only [Int.reduceToNat] at ho5; rw [← Ny358.out] at ho5)); have HO360 := Aside0.mk (Kd.R_lower ho5 (below_size BU)); replace HB := BS hb; clear hb ho5))
  go_loopg [7, 8] k (fun kq v7 v8 w' => ∃ (x7_1 : List Int) (x8_1 : Int), v8 = .int .i64 x8_1 ∧ Aside0 (spec_l7Mix.l0 kq l0 l1 a2 x7_1 x8_1 = some r) ∧ Aside0 (kq ≤ k) ∧ Aside0 (Kd.R (Kd.int .i64) 3 w' w.heap.size (fun _ => True) v7 x7_1) ∧ Aside0 (Below w.heap.size w w'))
  case atStart => exact ⟨(y358), (0), sR, H', ⟨Nat.le_refl _⟩, ⟨U HO360.out⟩, ⟨BU⟩⟩
  case round =>
    clear H'; obtain ⟨x7_1, x8_1, rfl, HA, HK1, HO_7, HB⟩ := hrel; cases gk with
    | zero => exact absurd HA.out (by simp [spec_l7Mix.l0])
    | succ k1 =>
      have H := HA.out; clear HA; simp only [spec_l7Mix.l0] at H
      by_cases c6 : x8_1 < (l0.length : Int)
      · rw [if_pos c6] at H
        have c6b0 : decide (x8_1 < (l0.length : Int)) = true := decide_eq_true c6; clear c6; obtain ⟨c7, H⟩ := ifN H; have c7b0 : decide (0 ≤ x8_1) = true := decide_eq_true c7; clear c7; obtain ⟨c8, H⟩ := ifN H; have c8b0 : decide (x8_1 < (l1.length : Int)) = true := decide_eq_true c8; clear c8; obtain ⟨c9, H⟩ := ifN H; have LMc9 := Aside0.mk c9; clear c9; obtain ⟨y363, hy363⟩ : ∃ y_ : List Int, y_ = (x7_1 ++ [wrap64 ((rd l0 x8_1) + (wrap64 (a2 * (rd l1 x8_1))))]) := ⟨_, rfl⟩; replace H : (spec_l7Mix.l0 k1 l0 l1 a2 y363 (wrap64 (x8_1 + 1))) = some r := rH hy363 H; have Ny363 := Aside0.mk hy363; clear hy363; have H' := Aside0.mk H; clear H
        try go_wp2
        replace HO_7 := Aside0.mk (Kd.R_drew HO_7.out); replace HB := Aside0.mk (below_drew1 HB.out); have p361 : 0 ≤ (x8_1 : Int) := oD; have q361 : x8_1 < (l0.length : Int) := oD; obtain ⟨ad361, e361, hx361_0⟩ := Kd.at_int HR0.out x8_1 p361 q361; have hw361_0 := hx361_0; cases e361; replace hx361_0 := (HB.out.cell (World.block_lt_of_cell? w _ hx361_0)).trans hx361_0; replace p361 := eq_true p361; replace q361 := eq_true q361; have p362 : 0 ≤ (x8_1 : Int) := oD; have q362 : x8_1 < (l1.length : Int) := oD; obtain ⟨ad362, e362, hx362_0⟩ := Kd.at_int HR1.out x8_1 p362 q362; have hw362_0 := hx362_0; cases e362; replace hx362_0 := (HB.out.cell (World.block_lt_of_cell? w _ hx362_0)).trans hx362_0; replace p362 := eq_true p362; replace q362 := eq_true q362
        refine start_ (n := 15) (S := fun w' => w'.cell? (ad361.add (x8_1).toNat) = some (.int .i64 (rd l0 x8_1)) ∧ w'.cell? (ad362.add (x8_1).toNat) = some (.int .i64 (rd l1 x8_1))) (ds := []) #[false, false, false, false, false, false, false, false, false, false, false, false, false, false, false] (by kernel_rfl) rfl rfl ⟨((HB.out.cell (World.block_lt_of_cell? w _ hw361_0)).trans hw361_0), ((HB.out.cell (World.block_lt_of_cell? w _ hw362_0)).trans hw362_0)⟩ (fun hHeld => ?_); refine with_tabW spec_l7Mix.tab5 spec_l7Mix.bits5 (fun HT_ HW_ => ?_)
        generalize wr.drew = w10 at HO_7 HB hx361_0 hx362_0 hHeld ⊢
        refine pure_ (i := 0) (N := some 16) (v := ?_) (a' := ?_) #[true, false, false, false, false, false, false, false, false, false, false, false, false, false, false] rfl rfl (any_of HT_.out (by kernel_rfl)) (fun _ _ _ h => h) (Or.inl ⟨by rfl, ?_⟩) ?_ ?_
        rotate_left
        · intro w'
          go_simp
          with_reducible rfl
        rotate_left
        · simp only [Act.put, List.setIfInBounds_toArray, List.set_cons_zero, List.set_cons_succ, i64_w, i32_w]
          rfl
        refine pure_ (i := 1) (N := some 17) (v := ?_) (a' := ?_) #[true, true, false, false, false, false, false, false, false, false, false, false, false, false, false] rfl rfl (any_of HT_.out (by kernel_rfl)) (fun _ _ _ h => h) (Or.inl ⟨by rfl, ?_⟩) ?_ ?_
        rotate_left
        · intro w'
          go_simp
          with_reducible rfl
        rotate_left
        · simp only [Act.put, List.setIfInBounds_toArray, List.set_cons_zero, List.set_cons_succ, i64_w, i32_w]
          rfl
        refine pure_ (i := 2) (N := some 18) (v := ?_) (a' := ?_) #[true, true, true, false, false, false, false, false, false, false, false, false, false, false, false] rfl rfl (any_of HT_.out (by kernel_rfl)) (fun _ _ _ h => h) (Or.inl ⟨by rfl, ?_⟩) ?_ ?_
        rotate_left
        · intro w'
          go_simp
          with_reducible rfl
        rotate_left
        · simp only [Act.put, List.setIfInBounds_toArray, List.set_cons_zero, List.set_cons_succ, i64_w, i32_w]
          rfl
        refine pure_ (i := 3) (N := some 19) (v := ?_) (a' := ?_) #[true, true, true, true, false, false, false, false, false, false, false, false, false, false, false] rfl rfl (any_of HT_.out (by kernel_rfl)) (fun _ _ _ h => h) (Or.inl ⟨by rfl, ?_⟩) ?_ ?_
        rotate_left
        · intro w'
          go_simp
          with_reducible rfl
        rotate_left
        · simp only [Act.put, List.setIfInBounds_toArray, List.set_cons_zero, List.set_cons_succ, i64_w, i32_w]
          rfl
        refine pure_ (i := 5) (N := some 21) (v := ?_) (a' := ?_) #[true, true, true, true, false, true, false, false, false, false, false, false, false, false, false] rfl rfl (any_of HT_.out (by kernel_rfl)) (fun _ _ _ h => h) (Or.inl ⟨by rfl, ?_⟩) ?_ ?_
        rotate_left
        · intro w'
          go_simp
          with_reducible rfl
        rotate_left
        · simp only [Act.put, List.setIfInBounds_toArray, List.set_cons_zero, List.set_cons_succ, i64_w, i32_w]
          rfl
        refine pure_ (i := 6) (N := some 22) (v := ?_) (a' := ?_) #[true, true, true, true, false, true, true, false, false, false, false, false, false, false, false] rfl rfl (any_of HT_.out (by kernel_rfl)) (fun _ _ _ h => h) (Or.inl ⟨by rfl, ?_⟩) ?_ ?_
        rotate_left
        · intro w'
          go_simp
          with_reducible rfl
        rotate_left
        · simp only [Act.put, List.setIfInBounds_toArray, List.set_cons_zero, List.set_cons_succ, i64_w, i32_w]
          rfl
        refine pure_ (i := 7) (N := some 23) (v := ?_) (a' := ?_) #[true, true, true, true, false, true, true, true, false, false, false, false, false, false, false] rfl rfl (any_of HT_.out (by kernel_rfl)) (fun _ _ _ h => h) (Or.inl ⟨by rfl, ?_⟩) ?_ ?_
        rotate_left
        · intro w'
          go_simp
          with_reducible rfl
        rotate_left
        · simp only [Act.put, List.setIfInBounds_toArray, List.set_cons_zero, List.set_cons_succ, i64_w, i32_w]
          rfl
        refine pure_ (i := 8) (N := some 24) (v := ?_) (a' := ?_) #[true, true, true, true, false, true, true, true, true, false, false, false, false, false, false] rfl rfl (any_of HT_.out (by kernel_rfl)) (fun _ _ _ h => h) (Or.inl ⟨by rfl, ?_⟩) ?_ ?_
        rotate_left
        · intro w'
          go_simp
          with_reducible rfl
        rotate_left
        · simp only [Act.put, List.setIfInBounds_toArray, List.set_cons_zero, List.set_cons_succ, i64_w, i32_w]
          rfl
        refine take_ (i := 4) (N := some 20) (v := ?_) (a' := ?_) #[true, true, true, true, true, true, true, true, true, false, false, false, false, false, false] rfl rfl (take_ofW HT_.out HW_.out (by kernel_rfl)) (fun _ _ _ h => h) (Or.inl ⟨by rfl, ?_⟩) hHeld ?_ ?_
        rotate_left
        · rintro w' ⟨s0, s1⟩
          go_simp
          with_reducible rfl
        rotate_left
        · simp only [Act.put, List.setIfInBounds_toArray, List.set_cons_zero, List.set_cons_succ, i64_w, i32_w]
          rfl
        refine take_ (i := 9) (N := some 25) (v := ?_) (a' := ?_) #[true, true, true, true, true, true, true, true, true, true, false, false, false, false, false] rfl rfl (take_ofW HT_.out HW_.out (by kernel_rfl)) (fun _ _ _ h => h) (Or.inl ⟨by rfl, ?_⟩) hHeld ?_ ?_
        rotate_left
        · rintro w' ⟨s0, s1⟩
          go_simp
          with_reducible rfl
        rotate_left
        · simp only [Act.put, List.setIfInBounds_toArray, List.set_cons_zero, List.set_cons_succ, i64_w, i32_w]
          rfl
        refine pure_ (i := 10) (N := some 26) (v := ?_) (a' := ?_) #[true, true, true, true, true, true, true, true, true, true, true, false, false, false, false] rfl rfl (any_of HT_.out (by kernel_rfl)) (fun _ _ _ h => h) (Or.inl ⟨by rfl, ?_⟩) ?_ ?_
        rotate_left
        · intro w'
          go_simp
          with_reducible rfl
        rotate_left
        · simp only [Act.put, List.setIfInBounds_toArray, List.set_cons_zero, List.set_cons_succ, i64_w, i32_w]
          rfl
        refine pure_ (i := 11) (N := some 27) (v := ?_) (a' := ?_) #[true, true, true, true, true, true, true, true, true, true, true, true, false, false, false] rfl rfl (any_of HT_.out (by kernel_rfl)) (fun _ _ _ h => h) (Or.inl ⟨by rfl, ?_⟩) ?_ ?_
        rotate_left
        · intro w'
          go_simp
          with_reducible rfl
        rotate_left
        · simp only [Act.put, List.setIfInBounds_toArray, List.set_cons_zero, List.set_cons_succ, i64_w, i32_w]
          rfl
        refine one_ (i := 12) (N := some 28) #[true, true, true, true, true, true, true, true, true, true, true, true, true, false, false] rfl rfl (one_of HT_.out (by kernel_rfl)) (by decide) (fun K hK => ?_)
        refine value_ (w1 := ?_) (v := ?_) (by rfl) rfl ?_ ?_
        rotate_left 2
        · go_simp
          constructor
          · rfl
          rfl
        refine hK.out _ _ ⟨(World.cell?_alloc_lt _ _ _ (World.block_lt_of_cell? _ _ (((HB.out.cell (World.block_lt_of_cell? w _ hw361_0)).trans hw361_0)))).trans (((HB.out.cell (World.block_lt_of_cell? w _ hw361_0)).trans hw361_0)), (World.cell?_alloc_lt _ _ _ (World.block_lt_of_cell? _ _ (((HB.out.cell (World.block_lt_of_cell? w _ hw362_0)).trans hw362_0)))).trans (((HB.out.cell (World.block_lt_of_cell? w _ hw362_0)).trans hw362_0))⟩ (fun hHeld => ?_)
        clear hK K
        refine norm_ (a' := ?_) ?_ ?_
        rotate_left
        · show Act.put _ (some 28) _ = _
          simp only [Act.put, List.setIfInBounds_toArray, List.set_cons_zero, List.set_cons_succ, i64_w, i32_w]
          rfl
        refine one_ (i := 13) (N := some 29) #[true, true, true, true, true, true, true, true, true, true, true, true, true, true, false] rfl rfl (one_of HT_.out (by kernel_rfl)) (by decide) (fun K hK => ?_)
        refine Kd.R_append_step (Kd.int .i64) (w0 := w) w.heap.size (by rfl) (.tmp 16) (.tmp 28) 23 3 (.int .i64 0) 8 rfl Try.underlying23 info3 rfl (by decide) (by omega) u7 x7_1 (wrap64 ((rd l0 x8_1) + (wrap64 (a2 * (rd l1 x8_1))))) [.int .i64 (wrap64 ((rd l0 x8_1) + (wrap64 (a2 * (rd l1 x8_1)))))] (fun _ => True) (fun _ => False) rfl rfl ?aP (fun _ hk => hk.elim) ?aF ?aO ?aB ?aS ?aL ?_
        (case aP => exact rfl)
        (case aB => exact BU)
        (case aF => exact (fun _ _ => trivial))
        (case aO => exact (U HO_7.out))
        (case aS => exact (below_size BU))
        (case aL => have := LMc9.out; omega)
        intro v364 w11 ho hb hg hat; rw [← Ny363.out] at ho; have n0_ := Aside0.mk (hb); have n1_ := Aside0.mk (ho); (try clear HB); clear HO_7; have HB := n0_; have HO365 := n1_; clear n0_ n1_ ho hb hg hat
        refine hK.out _ _ ⟨((HB.out.cell (World.block_lt_of_cell? w _ hw361_0)).trans hw361_0), ((HB.out.cell (World.block_lt_of_cell? w _ hw362_0)).trans hw362_0)⟩ (fun hHeld => ?_)
        clear hK K
        refine norm_ (a' := ?_) ?_ ?_
        rotate_left
        · show Act.put _ (some 29) _ = _
          simp only [Act.put, List.setIfInBounds_toArray, List.set_cons_zero, List.set_cons_succ, i64_w, i32_w]
          rfl
        refine pure_ (i := 14) (N := some 7) (v := ?_) (a' := ?_) #[true, true, true, true, true, true, true, true, true, true, true, true, true, true, true] rfl rfl (any_of HT_.out (by kernel_rfl)) (fun _ _ _ h => h) (Or.inl ⟨by rfl, ?_⟩) ?_ ?_
        rotate_left
        · intro w'
          go_simp
          with_reducible rfl
        rotate_left
        · simp only [Act.put, List.setIfInBounds_toArray, List.set_cons_zero, List.set_cons_succ, i64_w, i32_w]
          rfl
        refine done_ (done_of HT_.out (by kernel_rfl)) ?_
        try go_wp2
        go_roundg k1
        case measure => have := HK1.out; omega
        case rel => exact ⟨(y363), (wrap64 (x8_1 + 1)), sR, H', ⟨by have := HK1.out; omega⟩, ⟨U HO365.out⟩, ⟨BU⟩⟩
      rw [if_neg c6] at H; have c6b0 : decide (x8_1 < (l0.length : Int)) = false := decide_eq_false c6; clear c6; obtain rfl := Option.some.inj H
      go_wp2
      go_ret
      exact ⟨_, eR, U HO_7.out, BU⟩

/-! ### spec_l5Some: function 77 -/
def spec_l5Some.l0 : Nat → List Int → Int → Option (Bool)
  | 0, _, _ => none
  | k + 1, x0, x3 => if x3 < (x0.length : Int) then (if 0 ≤ x3 then (if (rd x0 x3) = 0 then (spec_l5Some.l0 k x0 (wrap64 (x3 + 1))) else (some true)) else (none)) else (some false)
def spec_l5Some.f (k : Nat) (l0 : List Int) : Option (Bool) := spec_l5Some.l0 k l0 0
theorem spec_l5Some.mono_l : ∀ k, (∀ y0 y1, LeO (spec_l5Some.l0 k y0 y1) (spec_l5Some.l0 (k + 1) y0 y1))
  | 0 => fun _ _ r h => by simp [spec_l5Some.l0] at h
  | k + 1 => by
    have ih0 := spec_l5Some.mono_l k
    · intro y0 y1
      unfold spec_l5Some.l0
      repeat' first
      | (with_reducible exact ih0 _ _)
      | (with_reducible exact LeO.refl _)
      | (with_reducible exact LeO.none _)
      | (with_reducible refine LeO.ite ?_ ?_)
      | (with_reducible refine LeO.bind ?_ (fun _ => ?_))
      | exact ih0 _ _
      | exact LeO.none _
      | refine LeO.ite ?_ ?_
      | refine LeO.bind ?_ (fun _ => ?_)
theorem spec_l5Some.mono : ∀ a0 k, LeO (spec_l5Some.f k a0) (spec_l5Some.f (k + 1) a0) := by
  intro a0 k
  have ih0 := spec_l5Some.mono_l k
  unfold spec_l5Some.f
  repeat' first
      | (with_reducible exact ih0 _ _)
      | (with_reducible exact LeO.refl _)
      | (with_reducible exact LeO.none _)
      | (with_reducible refine LeO.ite ?_ ?_)
      | (with_reducible refine LeO.bind ?_ (fun _ => ?_))
      | exact ih0 _ _
      | exact LeO.none _
      | refine LeO.ite ?_ ?_
      | refine LeO.bind ?_ (fun _ => ?_)
set_option maxHeartbeats 8000000 in
set_option maxRecDepth 100000 in
theorem spec_l5Some.calls (k : Nat) (A0 : Option Addr) (c0 : Nat) (l0 : List Int) (r : Bool) (w : World) (hr0 : Kd.C (Kd.int .i64) w A0 l0.length l0) (hc0 : l0.length ≤ c0) (h : spec_l5Some.f k l0 = some r) :
    Calls Try.prog 77 #[.slice A0 l0.length c0] w fun e w' => e = .returned (.bool r) ∧ Drawn0 w w' := by
  have HR0 := Aside0.mk hr0; have HC0 := Aside0.mk hc0; clear hr0 hc0; unfold spec_l5Some.f at h; have H := h; clear h; have H' := Aside0.mk H; clear H; go_enter Try.func77, Try.ntmps77
  go_wp2
  go_loopg [3] k (fun kq v3 w' => ∃ (x3_1 : Int), v3 = .int .i64 x3_1 ∧ Aside0 (spec_l5Some.l0 kq l0 x3_1 = some r) ∧ Aside0 (kq ≤ k) ∧ Drawn0 w w')
  case atStart => exact ⟨(0), sR, H', ⟨Nat.le_refl _⟩, by repeat (first | exact Drawn0.refl _ | apply Drawn0.step)⟩
  case round =>
    clear H'; obtain ⟨x3_1, rfl, HA, HK1, ⟨m1, rfl⟩⟩ := hrel; cases gk with
    | zero => exact absurd HA.out (by simp [spec_l5Some.l0])
    | succ k1 =>
      have H := HA.out; clear HA; simp only [spec_l5Some.l0] at H
      by_cases c2 : x3_1 < (l0.length : Int)
      · rw [if_pos c2] at H
        have c2b0 : decide (x3_1 < (l0.length : Int)) = true := decide_eq_true c2; clear c2; obtain ⟨c3, H⟩ := ifN H; have c3b0 : decide (0 ≤ x3_1) = true := decide_eq_true c3; clear c3
        by_cases c4 : (rd l0 x3_1) = 0
        · rw [if_pos c4] at H
          have c4b0 : ((rd l0 x3_1) == 0) = true := beq_iff_eq.mpr c4; have c4b1 : ((rd l0 x3_1) != 0) = false := bne_eq_false_iff_eq.mpr c4; clear c4; have H' := Aside0.mk H; clear H; have p366 : 0 ≤ (x3_1 : Int) := oD; have q366 : x3_1 < (l0.length : Int) := oD; obtain ⟨ad366, e366, hx366_0⟩ := Kd.at_int HR0.out x3_1 p366 q366; cases e366; replace p366 := eq_true p366; replace q366 := eq_true q366
          go_wp2
          go_roundg k1
          case measure => have := HK1.out; omega
          case rel => exact ⟨(wrap64 (x3_1 + 1)), sR, H', ⟨by have := HK1.out; omega⟩, by repeat (first | exact Drawn0.refl _ | apply Drawn0.step)⟩
        rw [if_neg c4] at H; have c4b0 : ((rd l0 x3_1) == 0) = false := beq_eq_false_iff_ne.mpr c4; have c4b1 : ((rd l0 x3_1) != 0) = true := bne_iff_ne.mpr c4; obtain rfl := Option.some.inj H; have p366 : 0 ≤ (x3_1 : Int) := oD; have q366 : x3_1 < (l0.length : Int) := oD; obtain ⟨ad366, e366, hx366_0⟩ := Kd.at_int HR0.out x3_1 p366 q366; cases e366; replace p366 := eq_true p366; replace q366 := eq_true q366
        go_wp2
        go_ret
        exact ⟨by first | rfl | (simp; done) | (simp [*]; done), by repeat (first | exact Drawn0.refl _ | apply Drawn0.step)⟩
      rw [if_neg c2] at H; have c2b0 : decide (x3_1 < (l0.length : Int)) = false := decide_eq_false c2; clear c2; obtain rfl := Option.some.inj H
      go_wp2
      go_ret
      exact ⟨by first | rfl | (simp; done) | (simp [*]; done), by repeat (first | exact Drawn0.refl _ | apply Drawn0.step)⟩

/-! ### spec_l1Size: function 80 -/
def spec_l1Size.f (a0 : Int) : Option (Int) := some (mx a0 (wrap64 (-a0)))
set_option maxHeartbeats 8000000 in
set_option maxRecDepth 100000 in
theorem spec_l1Size.calls (a0 : Int) (r : Int) (w : World) (h : spec_l1Size.f a0 = some r) :
    Calls Try.prog 80 #[.int .i64 a0] w fun e w' => e = .returned (.int .i64 r) ∧ Below w.heap.size w w' := by
  have HB := Aside0.mk (Below.refl w.heap.size w); unfold spec_l1Size.f at h; have H := h; clear h; obtain ⟨ji2, hji2⟩ : ∃ j_ : Int, (mx a0 (wrap64 (-a0))) = j_ := ⟨_, rfl⟩
  replace H : (some ji2) = some r := by first | (rw [hji2] at H; exact H) | (simp only [hji2] at H ⊢; exact H)
  have hji2_ : (if a0 < (wrap64 (-a0)) then (wrap64 (-a0)) else a0) = ji2 := hji2; obtain rfl := Option.some.inj H; go_enter Try.func80, Try.ntmps80
  go_wp2
  go_ret
  exact ⟨by first | rfl | (simp [errW_none, errW_some] <;> rfl) | (simp only [← hji2]; first | rfl | (simp [errW_none, errW_some] <;> rfl)) | (simp [*, errW_none, errW_some] <;> rfl), BU⟩

/-! ### spec_l1Gcd: function 87 -/
def spec_l1Gcd.l0 : Nat → Int → Int → Option (Int)
  | 0, _, _ => none
  | k + 1, x0, x1 => if x1 = 0 then (some x0) else (spec_l1Gcd.l0 k x1 (Int.tmod x0 x1))
def spec_l1Gcd.f (k : Nat) (a0 : Int) (a1 : Int) : Option (Int) := (spec_l1Size.f a0).bind fun t367 => ((spec_l1Size.f a1).bind fun t368 => (spec_l1Gcd.l0 k t367 t368))
theorem spec_l1Gcd.mono_l : ∀ k, (∀ y0 y1, LeO (spec_l1Gcd.l0 k y0 y1) (spec_l1Gcd.l0 (k + 1) y0 y1))
  | 0 => fun _ _ r h => by simp [spec_l1Gcd.l0] at h
  | k + 1 => by
    have ih0 := spec_l1Gcd.mono_l k
    · intro y0 y1
      unfold spec_l1Gcd.l0
      repeat' first
      | (with_reducible exact ih0 _ _)
      | (with_reducible exact LeO.refl _)
      | (with_reducible exact LeO.none _)
      | (with_reducible refine LeO.ite ?_ ?_)
      | (with_reducible refine LeO.bind ?_ (fun _ => ?_))
      | exact ih0 _ _
      | exact LeO.none _
      | refine LeO.ite ?_ ?_
      | refine LeO.bind ?_ (fun _ => ?_)
theorem spec_l1Gcd.mono : ∀ a0 a1 k, LeO (spec_l1Gcd.f k a0 a1) (spec_l1Gcd.f (k + 1) a0 a1) := by
  intro a0 a1 k
  have ih0 := spec_l1Gcd.mono_l k
  unfold spec_l1Gcd.f
  repeat' first
      | (with_reducible exact ih0 _ _)
      | (with_reducible exact LeO.refl _)
      | (with_reducible exact LeO.none _)
      | (with_reducible refine LeO.ite ?_ ?_)
      | (with_reducible refine LeO.bind ?_ (fun _ => ?_))
      | exact ih0 _ _
      | exact LeO.none _
      | refine LeO.ite ?_ ?_
      | refine LeO.bind ?_ (fun _ => ?_)
set_option maxHeartbeats 8000000 in
set_option maxRecDepth 100000 in
theorem spec_l1Gcd.calls (k : Nat) (a0 : Int) (a1 : Int) (r : Int) (w : World) (h : spec_l1Gcd.f k a0 a1 = some r) :
    Calls Try.prog 87 #[.int .i64 a0, .int .i64 a1] w fun e w' => e = .returned (.int .i64 r) ∧ Below w.heap.size w w' := by
  have HB := Aside0.mk (Below.refl w.heap.size w); unfold spec_l1Gcd.f at h; have H := h; clear h; obtain ⟨t367, A3, H⟩ := bnd H; obtain ⟨t368, A4, H⟩ := bnd H; have H' := Aside0.mk H; clear H; go_enter Try.func87, Try.ntmps87
  go_wp2_with (first | ((with_reducible refine gate_callee (f := 80) rfl ?_); refine goesK (some 7) Try.func80 #[.int .i64 a0] ?_; (with_reducible refine (spec_l1Size.calls a0 t367 _ A3.out).mono ?_); rintro e w5 ⟨rfl, hb⟩; refine ⟨_, rfl, ?_⟩; replace HB := BS hb; (try clear hb)) | ((with_reducible refine gate_callee (f := 80) rfl ?_); refine goesK (some 9) Try.func80 #[.int .i64 a1] ?_; (with_reducible refine (spec_l1Size.calls a1 t368 _ A4.out).mono ?_); rintro e w6 ⟨rfl, hb⟩; refine ⟨_, rfl, ?_⟩; replace HB := BS hb; (try clear hb)))
  go_loopg [0, 1] k (fun kq v0 v1 w' => ∃ (x0_1 : Int) (x1_1 : Int), v0 = .int .i64 x0_1 ∧ v1 = .int .i64 x1_1 ∧ Aside0 (spec_l1Gcd.l0 kq x0_1 x1_1 = some r) ∧ Aside0 (kq ≤ k) ∧ Aside0 (Below w.heap.size w w'))
  case atStart => exact ⟨(t367), (t368), sR, sR, H', ⟨Nat.le_refl _⟩, ⟨BU⟩⟩
  case round =>
    clear H'; obtain ⟨x0_1, x1_1, rfl, rfl, HA, HK1, HB⟩ := hrel; cases gk with
    | zero => exact absurd HA.out (by simp [spec_l1Gcd.l0])
    | succ k1 =>
      have H := HA.out; clear HA; simp only [spec_l1Gcd.l0] at H
      by_cases c7 : x1_1 = 0
      · rw [if_pos c7] at H
        have c7b0 : (x1_1 == 0) = true := beq_iff_eq.mpr c7; have c7b1 : (x1_1 != 0) = false := bne_eq_false_iff_eq.mpr c7; clear c7; obtain rfl := Option.some.inj H
        go_wp2
        go_ret
        exact ⟨eR, BU⟩
      rw [if_neg c7] at H; have c7b0 : (x1_1 == 0) = false := beq_eq_false_iff_ne.mpr c7; have c7b1 : (x1_1 != 0) = true := bne_iff_ne.mpr c7; have H' := Aside0.mk H; clear H
      go_wp2
      go_roundg k1
      case measure => have := HK1.out; omega
      case rel => exact ⟨(x1_1), (Int.tmod x0_1 x1_1), sR, sR, H', ⟨by have := HK1.out; omega⟩, ⟨BU⟩⟩

/-! ### spec_l5Plain: function 78 -/
mutual
def spec_l5Plain.l0 : Nat → List Int → Int → Int → Bool → Int → Option (List Int)
  | 0, _, _, _, _, _ => none
  | k + 1, x0, x3, x4, x5, x6 => if x6 < (x0.length : Int) then (if 0 ≤ x6 then ((spec_l1Gcd.f k x3 (rd x0 x6)).bind fun t370 => (if (rd x0 x6) = 0 then (spec_l5Plain.j1 k x0 t370 x4 x5 x6 false) else (spec_l5Plain.j1 k x0 t370 x4 x5 x6 x5))) else (none)) else (spec_l5Plain.l1 k x0 x3 x4 (([] : List Int)) 0)
def spec_l5Plain.j1 : Nat → List Int → Int → Int → Bool → Int → Bool → Option (List Int)
  | 0, _, _, _, _, _, _ => none
  | k + 1, x0, x3, x4, x5, x6, x28 => if x28 = true then (if 0 ≤ x6 then (if x6 < (x0.length : Int) then (if (rd x0 x6) < 0 then (spec_l5Plain.l0 k x0 x3 (-1) false (wrap64 (x6 + 1))) else (spec_l5Plain.l0 k x0 x3 x4 false (wrap64 (x6 + 1)))) else (none)) else (none)) else (spec_l5Plain.l0 k x0 x3 x4 x5 (wrap64 (x6 + 1)))
def spec_l5Plain.l1 : Nat → List Int → Int → Int → List Int → Int → Option (List Int)
  | 0, _, _, _, _, _ => none
  | k + 1, x0, x3, x4, x7, x8 => if x8 < (x0.length : Int) then (if 0 ≤ x8 then (if x3 = 0 then (none) else (if x7.length < 17592186044416 then (spec_l5Plain.l1 k x0 x3 x4 (x7 ++ [wrap64 (Int.tdiv (wrap64 (x4 * (rd x0 x8))) x3)]) (wrap64 (x8 + 1))) else (none))) else (none)) else (some x7)
end
def spec_l5Plain.f (k : Nat) (l0 : List Int) : Option (List Int) := spec_l5Plain.l0 k l0 0 1 true 0
theorem spec_l5Plain.mono_l : ∀ k, (∀ y0 y1 y2 y3 y4, LeO (spec_l5Plain.l0 k y0 y1 y2 y3 y4) (spec_l5Plain.l0 (k + 1) y0 y1 y2 y3 y4)) ∧ (∀ y0 y1 y2 y3 y4 y5, LeO (spec_l5Plain.j1 k y0 y1 y2 y3 y4 y5) (spec_l5Plain.j1 (k + 1) y0 y1 y2 y3 y4 y5)) ∧ (∀ y0 y1 y2 y3 y4, LeO (spec_l5Plain.l1 k y0 y1 y2 y3 y4) (spec_l5Plain.l1 (k + 1) y0 y1 y2 y3 y4))
  | 0 => ⟨fun _ _ _ _ _ r h => by simp [spec_l5Plain.l0] at h, fun _ _ _ _ _ _ r h => by simp [spec_l5Plain.j1] at h, fun _ _ _ _ _ r h => by simp [spec_l5Plain.l1] at h⟩
  | k + 1 => by
    obtain ⟨ih0, ih1, ih2⟩ := spec_l5Plain.mono_l k
    refine ⟨?_, ?_, ?_⟩ <;> intros <;> (first | unfold spec_l5Plain.l0 | unfold spec_l5Plain.j1 | unfold spec_l5Plain.l1) <;> (repeat' first
      | (with_reducible exact ih0 _ _ _ _ _)
      | (with_reducible exact ih1 _ _ _ _ _ _)
      | (with_reducible exact ih2 _ _ _ _ _)
      | (with_reducible exact spec_l1Gcd.mono _ _ _)
      | (with_reducible exact LeO.refl _)
      | (with_reducible exact LeO.none _)
      | (with_reducible refine LeO.ite ?_ ?_)
      | (with_reducible refine LeO.bind ?_ (fun _ => ?_))
      | exact ih0 _ _ _ _ _
      | exact ih1 _ _ _ _ _ _
      | exact ih2 _ _ _ _ _
      | exact spec_l1Gcd.mono _ _ _
      | exact LeO.none _
      | refine LeO.ite ?_ ?_
      | refine LeO.bind ?_ (fun _ => ?_))
theorem spec_l5Plain.mono : ∀ a0 k, LeO (spec_l5Plain.f k a0) (spec_l5Plain.f (k + 1) a0) := by
  intro a0 k
  obtain ⟨ih0, ih1, ih2⟩ := spec_l5Plain.mono_l k
  unfold spec_l5Plain.f
  repeat' first
      | (with_reducible exact ih0 _ _ _ _ _)
      | (with_reducible exact ih1 _ _ _ _ _ _)
      | (with_reducible exact ih2 _ _ _ _ _)
      | (with_reducible exact spec_l1Gcd.mono _ _ _)
      | (with_reducible exact LeO.refl _)
      | (with_reducible exact LeO.none _)
      | (with_reducible refine LeO.ite ?_ ?_)
      | (with_reducible refine LeO.bind ?_ (fun _ => ?_))
      | exact ih0 _ _ _ _ _
      | exact ih1 _ _ _ _ _ _
      | exact ih2 _ _ _ _ _
      | exact spec_l1Gcd.mono _ _ _
      | exact LeO.none _
      | refine LeO.ite ?_ ?_
      | refine LeO.bind ?_ (fun _ => ?_)
set_option maxHeartbeats 8000000 in
set_option maxRecDepth 100000 in
theorem spec_l5Plain.calls (k : Nat) (A0 : Option Addr) (c0 : Nat) (l0 : List Int) (r : List Int) (w : World) (hr0 : Kd.C (Kd.int .i64) w A0 l0.length l0) (hc0 : l0.length ≤ c0) (h : spec_l5Plain.f k l0 = some r) :
    Calls Try.prog 78 #[.slice A0 l0.length c0] w fun e w' => ∃ v0_ : Value, e = .returned (v0_) ∧ Kd.R (Kd.int .i64) 3 w' w.heap.size (fun _ => True) v0_ r ∧ Below w.heap.size w w' := by
  have HR0 := Aside0.mk hr0; have HC0 := Aside0.mk hc0; clear hr0 hc0; have HB := Aside0.mk (Below.refl w.heap.size w); unfold spec_l5Plain.f at h; have H := h; clear h; have H' := Aside0.mk H; clear H; go_enter Try.func78, Try.ntmps78
  go_wp2
  go_loopg [3, 4, 5, 6] k (fun kq v3 v4 v5 v6 w' => ∃ (x3_1 : Int) (x4_1 : Int) (x5_1 : Bool) (x6_1 : Int), v3 = .int .i64 x3_1 ∧ v4 = .int .i64 x4_1 ∧ v5 = .bool x5_1 ∧ v6 = .int .i64 x6_1 ∧ Aside0 (spec_l5Plain.l0 kq l0 x3_1 x4_1 x5_1 x6_1 = some r) ∧ Aside0 (kq ≤ k) ∧ Aside0 (Below w.heap.size w w'))
  case atStart => exact ⟨(0), (1), (true), (0), sR, sR, sR, sR, H', ⟨Nat.le_refl _⟩, ⟨BU⟩⟩
  case round =>
    clear H'; obtain ⟨x3_1, x4_1, x5_1, x6_1, rfl, rfl, rfl, rfl, HA, HK1, HB⟩ := hrel; cases gk with
    | zero => exact absurd HA.out (by simp [spec_l5Plain.l0])
    | succ k1 =>
      have H := HA.out; clear HA; simp only [spec_l5Plain.l0] at H
      by_cases c2 : x6_1 < (l0.length : Int)
      · rw [if_pos c2] at H
        have c2b0 : decide (x6_1 < (l0.length : Int)) = true := decide_eq_true c2; clear c2; obtain ⟨c3, H⟩ := ifN H; have c3b0 : decide (0 ≤ x6_1) = true := decide_eq_true c3; clear c3; obtain ⟨t370, A4, H⟩ := bnd H; have HC5 := Aside0.mk H; clear H; have p369 : 0 ≤ (x6_1 : Int) := oD; have q369 : x6_1 < (l0.length : Int) := oD; obtain ⟨ad369, e369, hx369_0⟩ := Kd.at_int HR0.out x6_1 p369 q369; cases e369; replace hx369_0 := (HB.out.cell (World.block_lt_of_cell? w _ hx369_0)).trans hx369_0; replace p369 := eq_true p369; replace q369 := eq_true q369
        go_upto_region 8 with (first | ((with_reducible refine gate_callee (f := 87) rfl ?_); refine goesK (some 20) Try.func87 #[.int .i64 x3_1, .int .i64 (rd l0 x6_1)] ?_; (with_reducible refine (spec_l1Gcd.calls k1 x3_1 (rd l0 x6_1) t370 _ A4.out).mono ?_); rintro e w6 ⟨rfl, hb⟩; refine ⟨_, rfl, ?_⟩; replace HB := BS hb; (try clear hb)))
        (try simp only [Act.put, List.setIfInBounds_toArray, List.set_cons_zero, List.set_cons_succ])
        go_cut [28] (fun v28 wc => ∃ (kq : Nat) (x28_4 : Bool), v28 = .bool x28_4 ∧ Aside0 (spec_l5Plain.j1 kq l0 t370 x4_1 x5_1 x6_1 x28_4 = some r) ∧ Aside0 (kq ≤ k1) ∧ Aside0 (Below w.heap.size w wc))
        case first =>
          have H := HC5.out; clear HC5
          by_cases c7 : (rd l0 x6_1) = 0
          · rw [if_pos c7] at H
            have c7b0 : ((rd l0 x6_1) == 0) = true := beq_iff_eq.mpr c7; have c7b1 : ((rd l0 x6_1) != 0) = false := bne_eq_false_iff_eq.mpr c7; clear c7
            (first | rw [c7b0] | (simp only [i64_w, i32_w]; rw [c7b0]) | skip)
            have H' := Aside0.mk H; clear H; have p371 : 0 ≤ (x6_1 : Int) := oD; have q371 : x6_1 < (l0.length : Int) := oD; obtain ⟨ad371, e371, hx371_0⟩ := Kd.at_int HR0.out x6_1 p371 q371; obtain rfl : ad369 = ad371 := (by injection e371); replace hx371_0 := (HB.out.cell (World.block_lt_of_cell? w _ hx371_0)).trans hx371_0; replace p371 := eq_true p371; replace q371 := eq_true q371
            go_wp2
            go_meet
            case rel => exact ⟨_, (false), sR, H', ⟨by have := HK1.out; first | omega | exact Nat.le_refl _⟩, ⟨BU⟩⟩
          rw [if_neg c7] at H; have c7b0 : ((rd l0 x6_1) == 0) = false := beq_eq_false_iff_ne.mpr c7; have c7b1 : ((rd l0 x6_1) != 0) = true := bne_iff_ne.mpr c7
          (first | rw [c7b0] | (simp only [i64_w, i32_w]; rw [c7b0]) | skip)
          have H' := Aside0.mk H; clear H; have p371 : 0 ≤ (x6_1 : Int) := oD; have q371 : x6_1 < (l0.length : Int) := oD; obtain ⟨ad371, e371, hx371_0⟩ := Kd.at_int HR0.out x6_1 p371 q371; obtain rfl : ad369 = ad371 := (by injection e371); replace hx371_0 := (HB.out.cell (World.block_lt_of_cell? w _ hx371_0)).trans hx371_0; replace p371 := eq_true p371; replace q371 := eq_true q371
          go_wp2
          go_meet
          case rel => exact ⟨_, (x5_1), sR, H', ⟨by have := HK1.out; first | omega | exact Nat.le_refl _⟩, ⟨BU⟩⟩
        case rest =>
          clear HC5; (try clear c2); (try clear c2b0); (try clear c3); (try clear c3b0); (try clear hx369_0); (try clear p369); (try clear q369); obtain ⟨kq, x28_4, rfl, HA, HJ4, HB⟩ := hcut; cases kq with
          | zero => exact absurd HA.out (by simp [spec_l5Plain.j1])
          | succ kj4 =>
            have H := HA.out; clear HA; simp only [spec_l5Plain.j1] at H
            by_cases c8 : x28_4 = true
            · subst c8
              replace H := ifT H; obtain ⟨c9, H⟩ := ifN H; have c9b0 : decide (0 ≤ x6_1) = true := decide_eq_true c9; clear c9; obtain ⟨c10, H⟩ := ifN H; have c10b0 : decide (x6_1 < (l0.length : Int)) = true := decide_eq_true c10; clear c10
              by_cases c11 : (rd l0 x6_1) < 0
              · rw [if_pos c11] at H
                have c11b0 : decide ((rd l0 x6_1) < 0) = true := decide_eq_true c11; clear c11; have H' := Aside0.mk H; clear H; have p372 : 0 ≤ (x6_1 : Int) := oD; have q372 : x6_1 < (l0.length : Int) := oD; obtain ⟨ad372, e372, hx372_0⟩ := Kd.at_int HR0.out x6_1 p372 q372; obtain rfl : ad369 = ad372 := (by injection e372); replace hx372_0 := (HB.out.cell (World.block_lt_of_cell? w _ hx372_0)).trans hx372_0; replace p372 := eq_true p372; replace q372 := eq_true q372
                go_wp2
                go_roundg kj4
                case measure => have := HK1.out; have := HJ4.out; omega
                case rel => exact ⟨(t370), ((-1)), (false), (wrap64 (x6_1 + 1)), sR, sR, sR, sR, H', ⟨by have := HK1.out; have := HJ4.out; omega⟩, ⟨BU⟩⟩
              rw [if_neg c11] at H; have c11b0 : decide ((rd l0 x6_1) < 0) = false := decide_eq_false c11; clear c11; have H' := Aside0.mk H; clear H; have p372 : 0 ≤ (x6_1 : Int) := oD; have q372 : x6_1 < (l0.length : Int) := oD; obtain ⟨ad372, e372, hx372_0⟩ := Kd.at_int HR0.out x6_1 p372 q372; obtain rfl : ad369 = ad372 := (by injection e372); replace hx372_0 := (HB.out.cell (World.block_lt_of_cell? w _ hx372_0)).trans hx372_0; replace p372 := eq_true p372; replace q372 := eq_true q372
              go_wp2
              go_roundg kj4
              case measure => have := HK1.out; have := HJ4.out; omega
              case rel => exact ⟨(t370), (x4_1), (false), (wrap64 (x6_1 + 1)), sR, sR, sR, sR, H', ⟨by have := HK1.out; have := HJ4.out; omega⟩, ⟨BU⟩⟩
            replace c8 := Bool.eq_false_iff.mpr c8; subst c8; replace H := ifF H; have H' := Aside0.mk H; clear H
            go_wp2
            go_roundg kj4
            case measure => have := HK1.out; have := HJ4.out; omega
            case rel => exact ⟨(t370), (x4_1), (x5_1), (wrap64 (x6_1 + 1)), sR, sR, sR, sR, H', ⟨by have := HK1.out; have := HJ4.out; omega⟩, ⟨BU⟩⟩
      rw [if_neg c2] at H; have c2b0 : decide (x6_1 < (l0.length : Int)) = false := decide_eq_false c2; clear c2; obtain ⟨y373, hy373⟩ : ∃ y_ : List Int, y_ = (([] : List Int)) := ⟨_, rfl⟩; replace H : (spec_l5Plain.l1 k1 l0 x3_1 x4_1 y373 0) = some r := rH hy373 H; have Ny373 := Aside0.mk hy373; clear hy373; have H' := Aside0.mk H; clear H
      go_wp2_with (first | ((with_reducible refine gate_dst (N := 34) rfl ?_); refine Kd.R_lit (Kd.int .i64) _ 3 ?hg (N := 34) ?hd (xs := ([] : List Int)) (inner := []) (ok := fun _ => True) (okp := fun _ => True) ?hr ?hp (fun _ hk => hk) trivial (Below.refl _ _) (Nat.le_refl _) (by simp) ?_; (case hd => rfl); (case hg => rfl); (case hr => first | (go_simp; done) | (go_simp; rfl)); (case hp => exact (Reps.none _ _)); intro v374 w12 ho13 hb hg_ hnew_; clear hg_ hnew_; (first | rw [← Ny373.out] at ho13 | (simp only [Int.reduceToNat] at ho13; rw [← Ny373.out] at ho13)); have HO375 := Aside0.mk (Kd.R_lower ho13 (below_size BU)); replace HB := BS hb; clear hb ho13))
      go_loopg [7, 8] k1 (fun kq v7 v8 w' => ∃ (x7_2 : List Int) (x8_2 : Int), v8 = .int .i64 x8_2 ∧ Aside0 (spec_l5Plain.l1 kq l0 x3_1 x4_1 x7_2 x8_2 = some r) ∧ Aside0 (kq ≤ k1) ∧ Aside0 (Kd.R (Kd.int .i64) 3 w' w.heap.size (fun _ => True) v7 x7_2) ∧ Aside0 (Below w.heap.size w w'))
      case atStart => exact ⟨(y373), (0), sR, H', ⟨Nat.le_refl _⟩, ⟨U HO375.out⟩, ⟨BU⟩⟩
      case round =>
        clear H'; (try clear c2); (try clear c2b0); obtain ⟨x7_2, x8_2, rfl, HA, HK2, HO_7, HB⟩ := hrel; cases gk with
        | zero => exact absurd HA.out (by simp [spec_l5Plain.l1])
        | succ k2 =>
          have H := HA.out; clear HA; simp only [spec_l5Plain.l1] at H
          by_cases c14 : x8_2 < (l0.length : Int)
          · rw [if_pos c14] at H
            have c14b0 : decide (x8_2 < (l0.length : Int)) = true := decide_eq_true c14; clear c14; obtain ⟨c15, H⟩ := ifN H; have c15b0 : decide (0 ≤ x8_2) = true := decide_eq_true c15; clear c15; obtain ⟨c16, H⟩ := ifM H; have c16b0 : (x3_1 == 0) = false := beq_eq_false_iff_ne.mpr c16; have c16b1 : (x3_1 != 0) = true := bne_iff_ne.mpr c16; obtain ⟨c17, H⟩ := ifN H; have LMc17 := Aside0.mk c17; clear c17; obtain ⟨y377, hy377⟩ : ∃ y_ : List Int, y_ = (x7_2 ++ [wrap64 (Int.tdiv (wrap64 (x4_1 * (rd l0 x8_2))) x3_1)]) := ⟨_, rfl⟩; replace H : (spec_l5Plain.l1 k2 l0 x3_1 x4_1 y377 (wrap64 (x8_2 + 1))) = some r := rH hy377 H; have Ny377 := Aside0.mk hy377; clear hy377; have H' := Aside0.mk H; clear H; have p376 : 0 ≤ (x8_2 : Int) := oD; have q376 : x8_2 < (l0.length : Int) := oD; obtain ⟨ad376, e376, hx376_0⟩ := Kd.at_int HR0.out x8_2 p376 q376; cases e376; replace hx376_0 := (HB.out.cell (World.block_lt_of_cell? w _ hx376_0)).trans hx376_0; replace p376 := eq_true p376; replace q376 := eq_true q376
            go_wp2_with (first | ((with_reducible refine gate_builtin (b := .append) (xs := #[.tmp 41, .tmp 50]) rfl ?_); at_builtin; refine Kd.R_append (Kd.int .i64) (w0 := w) w.heap.size rfl (.tmp 41) (.tmp 50) 23 3 (.int .i64 0) 8 rfl Try.underlying23 info3 rfl (by decide) (by omega) u7 x7_2 (wrap64 (Int.tdiv (wrap64 (x4_1 * (rd l0 x8_2))) x3_1)) [.int .i64 (wrap64 (Int.tdiv (wrap64 (x4_1 * (rd l0 x8_2))) x3_1))] (fun _ => True) (fun _ => False) rfl rfl ?aP (fun _ hk => hk.elim) ?aF ?aO ?aB ?aS ?aL ?_; (case aP => exact rfl); (case aB => exact BU); (case aF => exact (fun _ _ => trivial)); (case aO => exact (U HO_7.out)); (case aS => exact (below_size BU)); (case aL => have := LMc17.out; omega); intro v378 w18 ho hb hg hat; rw [← Ny377.out] at ho; have n0_ := Aside0.mk (hb); have n1_ := Aside0.mk (ho); try clear HB; clear HO_7; have HB := n0_; have HO379 := n1_; clear n0_ n1_; clear ho hb hg hat))
            go_roundg k2
            case measure => have := HK1.out; have := HK2.out; omega
            case rel => exact ⟨(y377), (wrap64 (x8_2 + 1)), sR, H', ⟨by have := HK1.out; have := HK2.out; omega⟩, ⟨U HO379.out⟩, ⟨BU⟩⟩
          rw [if_neg c14] at H; have c14b0 : decide (x8_2 < (l0.length : Int)) = false := decide_eq_false c14; clear c14; obtain rfl := Option.some.inj H
          go_wp2
          go_ret
          exact ⟨_, eR, U HO_7.out, BU⟩

end Go.Proofs.Ytnbeeogmaamgdaa.PFnCarry
