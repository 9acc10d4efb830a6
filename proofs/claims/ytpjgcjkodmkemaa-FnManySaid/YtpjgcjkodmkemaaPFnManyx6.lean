-- Written by a program of this session (wip/print2.py): the functions that the law reaches, plain, and the walks.
import Derived.Test.YtpjgcjkodmkemaaPFnManyx0
import Derived.Test.YtpjgcjkodmkemaaPFnManyx4
import Derived.Test.YtpjgcjkodmkemaaPFnManyx5
namespace Go.Proofs.Ytpjgcjkodmkemaa.PFnMany
open Go.RowKit Go.Proofs.YtpjgcjkodmkemaaW.PrintWords Go.Proofs.YtpjgcjkodmkemaaW.PrintLast Go.Proofs.YtpjgcjkodmkemaaW.PrintMore
attribute [local go_sem] max2_int min2_int max_two min_two max_three min_three max_four min_four   -- for this text's walks alone
set_option linter.unusedVariables false
set_option linter.unusedSimpArgs false

/-! ### spec_l92Form: function 35 -/
mutual
def spec_l92Form.j1 : Nat → List Int → List Int → Int → Option (List Int × Int)
  | 0, _, _, _ => none
  | k + 1, x5, x1000, x1001 => if (x5.length : Int) = 3 then ((spec_l6Rd_pick.f k x1000 x1001 2).bind fun bt239 => (if bt239.1 = 0 then ((spec_FormValid.f k x5).bind fun t241 => (spec_l92Form.j2 k x5 t241 x1000 bt239.2)) else (spec_l92Form.j2 k x5 false x1000 bt239.2))) else (spec_l92Form.j2 k x5 false x1000 x1001)
def spec_l92Form.j2 : Nat → List Int → Bool → List Int → Int → Option (List Int × Int)
  | 0, _, _, _, _ => none
  | k + 1, x5, x33, x1000, x1001 => if x33 = true then (if 0 < (x5.length : Int) then ((spec_l6Rd_pick.f k x1000 x1001 2).bind fun bt243 => (if 1 < (x5.length : Int) then (if (wrap64 ((wrap64 (-(wrap64 ((rd x5 0) * (wrap64 (1 + bt243.1)))))) - (rd x5 1))) = 0 then (some (x5, bt243.2)) else ((spec_l1Size.f (wrap64 ((wrap64 (-(wrap64 ((rd x5 0) * (wrap64 (1 + bt243.1)))))) - (rd x5 1)))).bind fun t246 => (if t246 ≤ 30 then (if 2 < (x5.length : Int) then (some ((x5.set (2 : Int).toNat (wrap64 ((wrap64 (-(wrap64 ((rd x5 0) * (wrap64 (1 + bt243.1)))))) - (rd x5 1)))), bt243.2)) else (none)) else (some (x5, bt243.2))))) else (none))) else (none)) else (some (x5, x1001))
def spec_l92Form.l0 : Nat → Int → List Int → List Int → Int → Option (List Int × Int)
  | 0, _, _, _, _ => none
  | k + 1, x1, x5, x1000, x1001 => if (x5.length : Int) < x1 then (if (x5.length : Int) > 0 then ((spec_l91Form.f k x1000 x1001 1).bind fun bt232 => (if x5.length + bt232.1.length < 17592186044416 then (spec_l92Form.l0 k x1 (x5 ++ bt232.1) x1000 bt232.2) else (none))) else (spec_l92Form.j1 k x5 x1000 x1001)) else (spec_l92Form.j1 k x5 x1000 x1001)
end
def spec_l92Form.f (k : Nat) (s0_0 : List Int) (s0_1 : Int) (a1 : Int) : Option (List Int × Int) := (spec_l91Form.f k s0_0 s0_1 1).bind fun bt228 => (spec_l92Form.l0 k a1 bt228.1 s0_0 bt228.2)
theorem spec_l92Form.mono_l : ∀ k, (∀ y0 y1 y2, LeO (spec_l92Form.j1 k y0 y1 y2) (spec_l92Form.j1 (k + 1) y0 y1 y2)) ∧ (∀ y0 y1 y2 y3, LeO (spec_l92Form.j2 k y0 y1 y2 y3) (spec_l92Form.j2 (k + 1) y0 y1 y2 y3)) ∧ (∀ y0 y1 y2 y3, LeO (spec_l92Form.l0 k y0 y1 y2 y3) (spec_l92Form.l0 (k + 1) y0 y1 y2 y3))
  | 0 => ⟨fun _ _ _ r h => by simp [spec_l92Form.j1] at h, fun _ _ _ _ r h => by simp [spec_l92Form.j2] at h, fun _ _ _ _ r h => by simp [spec_l92Form.l0] at h⟩
  | k + 1 => by
    obtain ⟨ih0, ih1, ih2⟩ := spec_l92Form.mono_l k
    refine ⟨?_, ?_, ?_⟩ <;> intros <;> (first | unfold spec_l92Form.j1 | unfold spec_l92Form.j2 | unfold spec_l92Form.l0) <;> (repeat' first
      | (with_reducible exact ih0 _ _ _)
      | (with_reducible exact ih1 _ _ _ _)
      | (with_reducible exact ih2 _ _ _ _)
      | (with_reducible exact spec_FormValid.mono _ _)
      | (with_reducible exact spec_l6Rd_pick.mono _ _ _ _)
      | (with_reducible exact spec_l91Form.mono _ _ _ _)
      | (with_reducible exact LeO.refl _)
      | (with_reducible exact LeO.none _)
      | (with_reducible refine LeO.ite ?_ ?_)
      | (with_reducible refine LeO.bind ?_ (fun _ => ?_))
      | exact ih0 _ _ _
      | exact ih1 _ _ _ _
      | exact ih2 _ _ _ _
      | exact spec_FormValid.mono _ _
      | exact spec_l6Rd_pick.mono _ _ _ _
      | exact spec_l91Form.mono _ _ _ _
      | exact LeO.none _
      | refine LeO.ite ?_ ?_
      | refine LeO.bind ?_ (fun _ => ?_))
theorem spec_l92Form.mono : ∀ a0 a1 a2 k, LeO (spec_l92Form.f k a0 a1 a2) (spec_l92Form.f (k + 1) a0 a1 a2) := by
  intro a0 a1 a2 k
  obtain ⟨ih0, ih1, ih2⟩ := spec_l92Form.mono_l k
  unfold spec_l92Form.f
  repeat' first
      | (with_reducible exact ih0 _ _ _)
      | (with_reducible exact ih1 _ _ _ _)
      | (with_reducible exact ih2 _ _ _ _)
      | (with_reducible exact spec_FormValid.mono _ _)
      | (with_reducible exact spec_l6Rd_pick.mono _ _ _ _)
      | (with_reducible exact spec_l91Form.mono _ _ _ _)
      | (with_reducible exact LeO.refl _)
      | (with_reducible exact LeO.none _)
      | (with_reducible refine LeO.ite ?_ ?_)
      | (with_reducible refine LeO.bind ?_ (fun _ => ?_))
      | exact ih0 _ _ _
      | exact ih1 _ _ _ _
      | exact ih2 _ _ _ _
      | exact spec_FormValid.mono _ _
      | exact spec_l6Rd_pick.mono _ _ _ _
      | exact spec_l91Form.mono _ _ _ _
      | exact LeO.none _
      | refine LeO.ite ?_ ?_
      | refine LeO.bind ?_ (fun _ => ?_)
def spec_l92Form.T5 : Bool × List (List Nat × List Nat) := (true, [([], []), ([0], [0]), ([1], [1]), ([], []), ([3], [3]), ([4], [4]), ([2, 5], [2, 5]), ([6], [6]), ([], []), ([8], [8]), ([9], [9]), ([7, 10], [7, 10]), ([11, 4, 0, 1, 2, 3, 4, 5, 6, 7, 8, 9, 10, 11], [11])])
def spec_l92Form.B5 : List Nat := [0, 1, 3, 0, 8, 24, 63, 127, 0, 256, 768, 2047, 4095]
theorem spec_l92Form.tab5 : rtab .any (opsOf Try.f35 5) = spec_l92Form.T5 := by kernel_rfl
theorem spec_l92Form.bits5 : waitsOk spec_l92Form.T5.2 spec_l92Form.B5 = true := by kernel_rfl
set_option maxHeartbeats 8000000 in
set_option maxRecDepth 100000 in
theorem spec_l92Form.calls (k : Nat) (g : Nat) (s0_0 : List Int) (s0_1 : Int) (a1 : Int) (r1 : List Int) (r2 : Int) (w0 w : World) (hI : IsS60 w0 w g s0_0 s0_1) (hB : Below w0.heap.size w0 w) (h : spec_l92Form.f k s0_0 s0_1 a1 = some (r1, r2)) :
    Calls Try.prog 35 #[.pointer (some ⟨g, 0, none⟩), .int .i64 a1] w fun e w' => ∃ v0_ : Value, e = .returned (v0_) ∧ Kd.R (Kd.int .i64) 3 w' w.heap.size (fun _ => True) v0_ r1 ∧ IsS60 w0 w' g s0_0 r2 ∧ Below w0.heap.size w0 w' ∧ KeepBut w w' g none := by
  have HI0 := Aside0.mk hI; have HK := Aside0.mk (KeepBut.refl w g none); have HL := Aside0.mk hB.size; clear hI; have HW0 := Aside0.mk hB.size; have HB := Aside0.mk hB; clear hB; unfold spec_l92Form.f at h; have H := h; clear h; obtain ⟨⟨t228, t231⟩, A3, H⟩ := bnd H; replace H : (spec_l92Form.l0 k a1 t228 s0_0 t231) = some (r1, r2) := H; have HC4 := Aside0.mk H; clear H; go_enter Try.func35, Try.ntmps35
  go_upto_block 0 with (first | ((with_reducible refine gate_callee (f := 61) rfl ?_); refine goesK (some 8) Try.func61 #[.pointer (some ⟨g, 0, none⟩), .int .i64 1] ?_; (with_reducible refine (spec_l91Form.calls k g s0_0 s0_1 1 t228 t231 w0 _ ?side1 ?side2 A3.out).mono ?_); (case side1 => repeat (first | (with_reducible first | exact HI0.out | apply IsS60.alloc | apply IsS60.drewN | apply IsS60.drew | apply IsS60.set_1) | exact HI0.out)); (case side2 => repeat (first | (with_reducible first | exact HB.out | apply below_alloc | apply pw_below_drewN | apply below_drew1 | refine below_set ?_ (IsS60.ge HI0.out)) | exact HB.out)); rintro e w5 ⟨v229, rfl, ho0, hi, hb, hk⟩; refine ⟨_, rfl, ?_⟩; have HO230 := Aside0.mk (Kd.R_lower ho0 (keep_size (w := w) (g := g) (row := none) KU)); replace HK := Aside0.mk (KeepBut.trans KU hk (.inl rfl)); replace HB := Aside0.mk (hb); replace HI0 := Aside0.mk (hi); (try clear hb); (try clear hk); (try clear hi); (try clear ho0)))
  (try simp only [Act.put, List.setIfInBounds_toArray, List.set_cons_zero, List.set_cons_succ])
  go_cut [5] (fun v5 wc => ∃ (kq : Nat) (x5_3 : List Int) (x1001_3 : Int), Aside0 (spec_l92Form.j1 kq x5_3 s0_0 x1001_3 = some (r1, r2)) ∧ Aside0 (kq ≤ k) ∧ Aside0 (Kd.R (Kd.int .i64) 3 wc w.heap.size (fun _ => True) v5 x5_3) ∧ Aside0 (IsS60 w0 wc g s0_0 x1001_3) ∧ Aside0 (KeepBut w wc g none) ∧ Aside0 (Below w0.heap.size w0 wc))
  case first =>
    have H := HC4.out; clear HC4; have H' := Aside0.mk H; clear H
    go_wp2
    go_loopg [5] k (fun kq v5 w' => ∃ (x5_1 : List Int) (x1001_1 : Int), Aside0 (spec_l92Form.l0 kq a1 x5_1 s0_0 x1001_1 = some (r1, r2)) ∧ Aside0 (kq ≤ k) ∧ Aside0 (Kd.R (Kd.int .i64) 3 w' w.heap.size (fun _ => True) v5 x5_1) ∧ Aside0 (IsS60 w0 w' g s0_0 x1001_1) ∧ Aside0 (KeepBut w w' g none) ∧ Aside0 (Below w0.heap.size w0 w'))
    case atStart => exact ⟨(t228), (t231), H', ⟨Nat.le_refl _⟩, ⟨U HO230.out⟩, ⟨by repeat (first | (with_reducible first | exact HI0.out | apply IsS60.alloc | apply IsS60.drewN | apply IsS60.drew | apply IsS60.set_1) | exact HI0.out)⟩, ⟨by repeat (first | (with_reducible first | exact HK.out | apply KeepBut.set_ | apply keep_drewN | apply keep_drew | apply keep_alloc) | exact HK.out)⟩, ⟨by repeat (first | (with_reducible first | exact HB.out | apply below_alloc | apply pw_below_drewN | apply below_drew1 | refine below_set ?_ (IsS60.ge HI0.out)) | exact HB.out)⟩⟩
    case round =>
      clear H'; obtain ⟨x5_1, x1001_1, HA, HK1, HO_5, HI0, HK, HB⟩ := hrel; cases gk with
      | zero => exact absurd HA.out (by simp [spec_l92Form.l0])
      | succ k1 =>
        have H := HA.out; clear HA; simp only [spec_l92Form.l0] at H
        by_cases c6 : (x5_1.length : Int) < a1
        · rw [if_pos c6] at H
          have c6b0 : decide ((x5_1.length : Int) < a1) = true := decide_eq_true c6; clear c6
          (first | rw [c6b0] | (simp only [i64_w, i32_w]; rw [c6b0]) | skip)
          by_cases c7 : (x5_1.length : Int) > 0
          · rw [if_pos c7] at H
            have c7b0 : decide (0 < (x5_1.length : Int)) = true := decide_eq_true c7; have c7b1 : decide (0 < x5_1.length) = true := decide_eq_true (by omega); clear c7; obtain ⟨⟨t232, t235⟩, A8, H⟩ := bnd H; replace H : (if x5_1.length + t232.length < 17592186044416 then (spec_l92Form.l0 k1 a1 (x5_1 ++ t232) s0_0 t235) else (none)) = some (r1, r2) := H; obtain ⟨c9, H⟩ := ifN H; have LMc9 := Aside0.mk c9; clear c9; obtain ⟨y236, hy236⟩ : ∃ y_ : List Int, y_ = (x5_1 ++ t232) := ⟨_, rfl⟩; replace H : (spec_l92Form.l0 k1 a1 y236 s0_0 t235) = some (r1, r2) := rH hy236 H; have Ny236 := Aside0.mk hy236; clear hy236; have H' := Aside0.mk H; clear H; obtain ⟨Ao10, co10, eo10⟩ := Kd.R_slice HO_5.out; subst eo10
            go_wp2_with (first | ((with_reducible refine gate_callee (f := 61) rfl ?_); refine goesK (some 20) Try.func61 #[.pointer (some ⟨g, 0, none⟩), .int .i64 1] ?_; (with_reducible refine (spec_l91Form.calls k1 g s0_0 x1001_1 1 t232 t235 w0 _ ?side1 ?side2 A8.out).mono ?_); (case side1 => repeat (first | (with_reducible first | exact HI0.out | apply IsS60.alloc | apply IsS60.drewN | apply IsS60.drew | apply IsS60.set_1) | exact HI0.out)); (case side2 => repeat (first | (with_reducible first | exact HB.out | apply below_alloc | apply pw_below_drewN | apply below_drew1 | refine below_set ?_ (IsS60.ge HI0.out)) | exact HB.out)); rintro e w11 ⟨v233, rfl, ho0, hi, hb, hk⟩; refine ⟨_, rfl, ?_⟩; have HO234 := Aside0.mk (Kd.R_lower (Kd.R_new' ho0 (Kd.R_lt (U HO_5.out))) (keep_size (w := w) (g := g) (row := none) KU)); replace HO_5 := Aside0.mk (Kd.R_mono (Kd.R_told (Kd.R_oldK (IsS60.apart (show IsS60 w0 _ g s0_0 x1001_1 from by repeat (first | (with_reducible first | exact HI0.out | apply IsS60.alloc | apply IsS60.drewN | apply IsS60.drew | apply IsS60.set_1) | exact HI0.out)) (U HO_5.out) (by decide)) hk) (Kd.R_base ho0)) (fun _ h_ => h_.1)); replace HK := Aside0.mk (KeepBut.trans KU hk (.inl rfl)); replace HB := Aside0.mk (hb); replace HI0 := Aside0.mk (hi); (try clear hb); (try clear hk); (try clear hi); (try clear ho0); obtain ⟨Ao13, co13, eo13⟩ := Kd.R_slice HO234.out; subst eo13) | ((with_reducible refine gate_builtin (b := .append) (xs := #[.tmp 18, .tmp 20]) rfl ?_); (try (refine gate_guard (by rfl) ?_; dsimp only)); at_builtin; refine Kd.R_append_rows (Kd.int .i64) w.heap.size rfl (.tmp 18) (.tmp 20) 23 3 (.int .i64 0) 8 rfl Try.underlying23 info3 rfl (by decide) (by omega) (.slice Ao10 x5_1.length co10) x5_1 t232 _ _ _ (fun k_ => some k_ ≠ (.slice Ao13 t232.length co13 : Value).ownBlock) (fun _ => False) rfl rfl ?aO ?aR (fun _ _ h => h) (fun _ h => h.elim) ?aF (Below.refl _ _) ?aS ?aL ?_; (case aR => exact U ((Kd.R_reads' HO234.out).2.2)); (case aF => exact (fun k_ hk => Kd.fresh' (Kd.R_lt (U HO234.out)) k_ hk)); (case aO => exact (Kd.RM HO_5.out (fun _ hk => hk.2))); (case aS => exact (keep_size (w := w) (g := g) (row := none) KU)); (case aL => have := LMc9.out; omega); intro v237 w12 ho hb hg hat; rw [← Ny236.out] at ho; have n0_ := Aside0.mk (IsS60.grown (by repeat (first | (with_reducible first | exact HI0.out | apply IsS60.alloc | apply IsS60.drewN | apply IsS60.drew | apply IsS60.set_1) | exact HI0.out)) hg (IsS60.own_ne HI0.out HO_5.out (by decide))); have n1_ := Aside0.mk (Kd.R_after (ok := (fun _ => True)) (U HO234.out) hg hat); have n2_ := Aside0.mk (below_weaken (by repeat (first | (with_reducible first | exact HB.out | apply below_alloc | apply pw_below_drewN | apply below_drew1 | refine below_set ?_ (IsS60.ge HI0.out)) | exact HB.out)) HL.out hb); have n3_ := Aside0.mk (KeepBut.trans KU (KeepBut.of_grown hg g) (Kd.R_base2 HO_5.out)); have n4_ := Aside0.mk (ho); clear HI0; clear HO234; try clear HB; clear HK; clear HO_5; have HI0 := n0_; have HO234 := n1_; have HB := n2_; have HK := n3_; have HO238 := n4_; clear n0_ n1_ n2_ n3_ n4_; clear ho hb hg hat))
            go_roundg k1
            case measure => have := HK1.out; omega
            case rel => exact ⟨(y236), (t235), H', ⟨by have := HK1.out; omega⟩, ⟨Kd.RM HO238.out (fun _ hk => trivial)⟩, ⟨by repeat (first | (with_reducible first | exact HI0.out | apply IsS60.alloc | apply IsS60.drewN | apply IsS60.drew | apply IsS60.set_1) | exact HI0.out)⟩, ⟨by repeat (first | (with_reducible first | exact HK.out | apply KeepBut.set_ | apply keep_drewN | apply keep_drew | apply keep_alloc) | exact HK.out)⟩, ⟨by repeat (first | (with_reducible first | exact HB.out | apply below_alloc | apply pw_below_drewN | apply below_drew1 | refine below_set ?_ (IsS60.ge HI0.out)) | exact HB.out)⟩⟩
          rw [if_neg c7] at H; have c7b0 : decide (0 < (x5_1.length : Int)) = false := decide_eq_false c7; have c7b1 : decide (0 < x5_1.length) = false := decide_eq_false (by omega); clear c7; have H' := Aside0.mk H; clear H; obtain ⟨Ao14, co14, eo14⟩ := Kd.R_slice HO_5.out; subst eo14
          go_wp2
          go_meet
          case rel => exact ⟨_, (x5_1), (x1001_1), H', ⟨by have := HK1.out; first | omega | exact Nat.le_refl _⟩, ⟨U HO_5.out⟩, ⟨by repeat (first | (with_reducible first | exact HI0.out | apply IsS60.alloc | apply IsS60.drewN | apply IsS60.drew | apply IsS60.set_1) | exact HI0.out)⟩, ⟨by repeat (first | (with_reducible first | exact HK.out | apply KeepBut.set_ | apply keep_drewN | apply keep_drew | apply keep_alloc) | exact HK.out)⟩, ⟨by repeat (first | (with_reducible first | exact HB.out | apply below_alloc | apply pw_below_drewN | apply below_drew1 | refine below_set ?_ (IsS60.ge HI0.out)) | exact HB.out)⟩⟩
        rw [if_neg c6] at H; have c6b0 : decide ((x5_1.length : Int) < a1) = false := decide_eq_false c6; clear c6
        (first | rw [c6b0] | (simp only [i64_w, i32_w]; rw [c6b0]) | skip)
        have H' := Aside0.mk H; clear H; obtain ⟨Ao15, co15, eo15⟩ := Kd.R_slice HO_5.out; subst eo15
        go_wp2
        go_meet
        case rel => exact ⟨_, (x5_1), (x1001_1), H', ⟨by have := HK1.out; first | omega | exact Nat.le_refl _⟩, ⟨U HO_5.out⟩, ⟨by repeat (first | (with_reducible first | exact HI0.out | apply IsS60.alloc | apply IsS60.drewN | apply IsS60.drew | apply IsS60.set_1) | exact HI0.out)⟩, ⟨by repeat (first | (with_reducible first | exact HK.out | apply KeepBut.set_ | apply keep_drewN | apply keep_drew | apply keep_alloc) | exact HK.out)⟩, ⟨by repeat (first | (with_reducible first | exact HB.out | apply below_alloc | apply pw_below_drewN | apply below_drew1 | refine below_set ?_ (IsS60.ge HI0.out)) | exact HB.out)⟩⟩
  case rest =>
    clear HC4; obtain ⟨kq, x5_3, x1001_3, HA, HJ3, HO_5, HI0, HK, HB⟩ := hcut; cases kq with
    | zero => exact absurd HA.out (by simp [spec_l92Form.j1])
    | succ kj3 =>
      have H := HA.out; clear HA; simp only [spec_l92Form.j1] at H; have HC16 := Aside0.mk H; clear H
      go_upto_region 4 with (fail)
      go_cut [33] (fun v33 wc => ∃ (kq : Nat) (x33_15 : Bool) (x1001_15 : Int), v33 = .bool x33_15 ∧ Aside0 (spec_l92Form.j2 kq x5_3 x33_15 s0_0 x1001_15 = some (r1, r2)) ∧ Aside0 (kq ≤ kj3) ∧ Aside0 (Kd.R (Kd.int .i64) 3 wc w.heap.size (fun _ => True) u5 x5_3) ∧ Aside0 (IsS60 w0 wc g s0_0 x1001_15) ∧ Aside0 (KeepBut w wc g none) ∧ Aside0 (Below w0.heap.size w0 wc))
      case first =>
        have H := HC16.out; clear HC16
        by_cases c17 : (x5_3.length : Int) = 3
        · rw [if_pos c17] at H
          have c17b0 : ((x5_3.length : Int) == 3) = true := beq_iff_eq.mpr c17; have c17b1 : ((x5_3.length : Int) != 3) = false := bne_eq_false_iff_eq.mpr c17; clear c17
          (first | rw [c17b0] | (simp only [i64_w, i32_w]; rw [c17b0]) | skip)
          obtain ⟨⟨t239, t240⟩, A18, H⟩ := bnd H; replace H : (if t239 = 0 then ((spec_FormValid.f kj3 x5_3).bind fun t241 => (spec_l92Form.j2 kj3 x5_3 t241 s0_0 t240)) else (spec_l92Form.j2 kj3 x5_3 false s0_0 t240)) = some (r1, r2) := H
          by_cases c19 : t239 = 0
          · rw [if_pos c19] at H
            have c19b0 : (t239 == 0) = true := beq_iff_eq.mpr c19; have c19b1 : (t239 != 0) = false := bne_eq_false_iff_eq.mpr c19; clear c19; obtain ⟨t241, A20, H⟩ := bnd H; have H' := Aside0.mk H; clear H; obtain ⟨Ao21, co21, eo21⟩ := Kd.R_slice HO_5.out; subst eo21
            go_wp2_with (first | (go_at_call 36; (with_reducible refine (spec_l6Rd_pick.calls kj3 g s0_0 x1001_3 2 t239 t240 w0 _ ?side1 ?side2 A18.out).mono ?_); (case side1 => repeat (first | (with_reducible first | exact HI0.out | apply IsS60.alloc | apply IsS60.drewN | apply IsS60.drew | apply IsS60.set_1) | exact HI0.out)); (case side2 => repeat (first | (with_reducible first | exact HB.out | apply below_alloc | apply pw_below_drewN | apply below_drew1 | refine below_set ?_ (IsS60.ge HI0.out)) | exact HB.out)); rintro e w22 ⟨rfl, hi, hb, hk⟩; replace HO_5 := Aside0.mk (Kd.R_mono (Kd.R_keep (IsS60.apart (show IsS60 w0 _ g s0_0 x1001_3 from by repeat (first | (with_reducible first | exact HI0.out | apply IsS60.alloc | apply IsS60.drewN | apply IsS60.drew | apply IsS60.set_1) | exact HI0.out)) (U HO_5.out) (by decide)) hk (fun _ h => h.2)) (fun _ h => h.1)); replace HK := Aside0.mk (KeepBut.trans KU hk (.inl rfl)); replace HB := Aside0.mk (hb); replace HI0 := Aside0.mk (hi); (try clear hb); (try clear hk); (try clear hi)) | (go_at_call 41; (with_reducible refine (spec_FormValid.calls kj3 _ _ x5_3 t241 _ ?side1 ?side2 A20.out).mono ?_); (case side1 => exact U ((Kd.R_reads' HO_5.out).2.2)); (case side2 => exact (Kd.R_reads' HO_5.out).2.1); rintro e w' ⟨rfl, ⟨nd, rfl⟩⟩))
            go_meet
            case rel => exact ⟨_, (t241), (t240), sR, H', ⟨by have := HJ3.out; first | omega | exact Nat.le_refl _⟩, ⟨U HO_5.out⟩, ⟨by repeat (first | (with_reducible first | exact HI0.out | apply IsS60.alloc | apply IsS60.drewN | apply IsS60.drew | apply IsS60.set_1) | exact HI0.out)⟩, ⟨by repeat (first | (with_reducible first | exact HK.out | apply KeepBut.set_ | apply keep_drewN | apply keep_drew | apply keep_alloc) | exact HK.out)⟩, ⟨by repeat (first | (with_reducible first | exact HB.out | apply below_alloc | apply pw_below_drewN | apply below_drew1 | refine below_set ?_ (IsS60.ge HI0.out)) | exact HB.out)⟩⟩
          rw [if_neg c19] at H; have c19b0 : (t239 == 0) = false := beq_eq_false_iff_ne.mpr c19; have c19b1 : (t239 != 0) = true := bne_iff_ne.mpr c19; have H' := Aside0.mk H; clear H; obtain ⟨Ao23, co23, eo23⟩ := Kd.R_slice HO_5.out; subst eo23
          go_wp2_with (first | (go_at_call 36; (with_reducible refine (spec_l6Rd_pick.calls kj3 g s0_0 x1001_3 2 t239 t240 w0 _ ?side1 ?side2 A18.out).mono ?_); (case side1 => repeat (first | (with_reducible first | exact HI0.out | apply IsS60.alloc | apply IsS60.drewN | apply IsS60.drew | apply IsS60.set_1) | exact HI0.out)); (case side2 => repeat (first | (with_reducible first | exact HB.out | apply below_alloc | apply pw_below_drewN | apply below_drew1 | refine below_set ?_ (IsS60.ge HI0.out)) | exact HB.out)); rintro e w24 ⟨rfl, hi, hb, hk⟩; replace HO_5 := Aside0.mk (Kd.R_mono (Kd.R_keep (IsS60.apart (show IsS60 w0 _ g s0_0 x1001_3 from by repeat (first | (with_reducible first | exact HI0.out | apply IsS60.alloc | apply IsS60.drewN | apply IsS60.drew | apply IsS60.set_1) | exact HI0.out)) (U HO_5.out) (by decide)) hk (fun _ h => h.2)) (fun _ h => h.1)); replace HK := Aside0.mk (KeepBut.trans KU hk (.inl rfl)); replace HB := Aside0.mk (hb); replace HI0 := Aside0.mk (hi); (try clear hb); (try clear hk); (try clear hi)))
          go_meet
          case rel => exact ⟨_, (false), (t240), sR, H', ⟨by have := HJ3.out; first | omega | exact Nat.le_refl _⟩, ⟨U HO_5.out⟩, ⟨by repeat (first | (with_reducible first | exact HI0.out | apply IsS60.alloc | apply IsS60.drewN | apply IsS60.drew | apply IsS60.set_1) | exact HI0.out)⟩, ⟨by repeat (first | (with_reducible first | exact HK.out | apply KeepBut.set_ | apply keep_drewN | apply keep_drew | apply keep_alloc) | exact HK.out)⟩, ⟨by repeat (first | (with_reducible first | exact HB.out | apply below_alloc | apply pw_below_drewN | apply below_drew1 | refine below_set ?_ (IsS60.ge HI0.out)) | exact HB.out)⟩⟩
        rw [if_neg c17] at H; have c17b0 : ((x5_3.length : Int) == 3) = false := beq_eq_false_iff_ne.mpr c17; have c17b1 : ((x5_3.length : Int) != 3) = true := bne_iff_ne.mpr c17
        (first | rw [c17b0] | (simp only [i64_w, i32_w]; rw [c17b0]) | skip)
        have H' := Aside0.mk H; clear H; obtain ⟨Ao25, co25, eo25⟩ := Kd.R_slice HO_5.out; subst eo25
        go_wp2
        go_meet
        case rel => exact ⟨_, (false), (x1001_3), sR, H', ⟨by have := HJ3.out; first | omega | exact Nat.le_refl _⟩, ⟨U HO_5.out⟩, ⟨by repeat (first | (with_reducible first | exact HI0.out | apply IsS60.alloc | apply IsS60.drewN | apply IsS60.drew | apply IsS60.set_1) | exact HI0.out)⟩, ⟨by repeat (first | (with_reducible first | exact HK.out | apply KeepBut.set_ | apply keep_drewN | apply keep_drew | apply keep_alloc) | exact HK.out)⟩, ⟨by repeat (first | (with_reducible first | exact HB.out | apply below_alloc | apply pw_below_drewN | apply below_drew1 | refine below_set ?_ (IsS60.ge HI0.out)) | exact HB.out)⟩⟩
      case rest =>
        clear HC16; obtain ⟨kq, x33_15, x1001_15, rfl, HA, HJ15, HO_5, HI0, HK, HB⟩ := hcut; cases kq with
        | zero => exact absurd HA.out (by simp [spec_l92Form.j2])
        | succ kj15 =>
          have H := HA.out; clear HA; simp only [spec_l92Form.j2] at H
          by_cases c26 : x33_15 = true
          · subst c26
            replace H := ifT H; obtain ⟨c27, H⟩ := ifN H; have c27b0 : decide (0 < (x5_3.length : Int)) = true := decide_eq_true c27; have c27b1 : decide (0 < x5_3.length) = true := decide_eq_true (by omega); clear c27; obtain ⟨⟨t243, t244⟩, A28, H⟩ := bnd H
            replace H : (if 1 < (x5_3.length : Int) then (if (wrap64 ((wrap64 (-(wrap64 ((rd x5_3 0) * (wrap64 (1 + t243)))))) - (rd x5_3 1))) = 0 then (some (x5_3, t244)) else ((spec_l1Size.f (wrap64 ((wrap64 (-(wrap64 ((rd x5_3 0) * (wrap64 (1 + t243)))))) - (rd x5_3 1)))).bind fun t246 => (if t246 ≤ 30 then (if 2 < (x5_3.length : Int) then (some ((x5_3.set (2 : Int).toNat (wrap64 ((wrap64 (-(wrap64 ((rd x5_3 0) * (wrap64 (1 + t243)))))) - (rd x5_3 1)))), t244)) else (none)) else (some (x5_3, t244))))) else (none)) = some (r1, r2) := H
            obtain ⟨c29, H⟩ := ifN H; have c29b0 : decide (1 < (x5_3.length : Int)) = true := decide_eq_true c29; have c29b1 : decide (1 < x5_3.length) = true := decide_eq_true (by omega); clear c29
            by_cases c30 : (wrap64 ((wrap64 (-(wrap64 ((rd x5_3 0) * (wrap64 (1 + t243)))))) - (rd x5_3 1))) = 0
            · rw [if_pos c30] at H
              have c30b0 : ((wrap64 ((wrap64 (-(wrap64 ((rd x5_3 0) * (wrap64 (1 + t243)))))) - (rd x5_3 1))) == 0) = true := beq_iff_eq.mpr c30; have c30b1 : ((wrap64 ((wrap64 (-(wrap64 ((rd x5_3 0) * (wrap64 (1 + t243)))))) - (rd x5_3 1))) != 0) = false := bne_eq_false_iff_eq.mpr c30; clear c30; simp only [Option.some.injEq, Prod.mk.injEq] at H; obtain ⟨rfl, rfl⟩ := H
              try go_wp2
              replace HO_5 := Aside0.mk (Kd.R_drew HO_5.out); replace HI0 := Aside0.mk (IsS60.drew HI0.out); replace HK := Aside0.mk (keep_drew HK.out); replace HB := Aside0.mk (below_drew1 HB.out); obtain ⟨Ao32, co32, eo32⟩ := Kd.R_slice HO_5.out
              (first | subst eo32 | (injection eo32 with f1_ f2_ f3_; have f4_ := f1_.symm; have f5_ := f3_.symm; clear f1_ f2_ f3_; subst f4_; subst f5_))
              have p242 : 0 ≤ (0 : Int) := (by omega); have q242 : 0 < (x5_3.length : Int) := oD; obtain ⟨ad242, e242, hx242_0⟩ := Kd.at_int (Kd.R_reads' HO_5.out).2.2 0 p242 q242; cases e242; have qi242 : (0 < x5_3.length) = True := eq_true (by omega)
              (try rw [show ((0 : Int)).toNat = 0 from rfl] at hx242_0)
              (try rw [Addr.add_zero'] at hx242_0)
              replace p242 := eq_true p242; replace q242 := eq_true q242; have p245 : 0 ≤ (1 : Int) := (by omega); have q245 : 1 < (x5_3.length : Int) := oD; obtain ⟨ad245, e245, hx245_0⟩ := Kd.at_int (Kd.R_reads' HO_5.out).2.2 1 p245 q245; obtain rfl : ad242 = ad245 := (by injection e245)
              (try simp only [show (1 : Int).toNat = 1 from rfl, Nat.reduceMul, Nat.reduceEqDiff, Go.Addr.add, ↓reduceIte] at hx245_0)
              have qi245 : (1 < x5_3.length) = True := eq_true (by omega)
              (try rw [show ((1 : Int)).toNat = 1 from rfl] at hx245_0)
              replace p245 := eq_true p245; replace q245 := eq_true q245
              refine start_ (n := 13) (S := fun w' => w'.cell? ad242 = some (.int .i64 (rd x5_3 0)) ∧ w'.cell? ⟨ad242.block, ad242.off + 1, none⟩ = some (.int .i64 (rd x5_3 1))) (ds := []) #[false, false, false, false, false, false, false, false, false, false, false, false, false] (by kernel_rfl) rfl rfl ⟨hx242_0, hx245_0⟩ (fun hHeld => ?_); refine with_tabW spec_l92Form.tab5 spec_l92Form.bits5 (fun HT_ HW_ => ?_)
              generalize wc.drew = w31 at HO_5 HI0 HK HB hx242_0 hx245_0 hHeld ⊢
              refine pure_ (i := 0) (N := some 34) (v := ?_) (a' := ?_) #[true, false, false, false, false, false, false, false, false, false, false, false, false] rfl rfl (any_of HT_.out (by kernel_rfl)) (fun _ _ _ h => h) (Or.inl ⟨by rfl, ?_⟩) ?_ ?_
              rotate_left
              · intro w'
                go_simp
                with_reducible rfl
              rotate_left
              · simp only [Act.put, List.setIfInBounds_toArray, List.set_cons_zero, List.set_cons_succ, i64_w, i32_w]
                rfl
              refine pure_ (i := 1) (N := some 35) (v := ?_) (a' := ?_) #[true, true, false, false, false, false, false, false, false, false, false, false, false] rfl rfl (any_of HT_.out (by kernel_rfl)) (fun _ _ _ h => h) (Or.inl ⟨by rfl, ?_⟩) ?_ ?_
              rotate_left
              · intro w'
                go_simp
                with_reducible rfl
              rotate_left
              · simp only [Act.put, List.setIfInBounds_toArray, List.set_cons_zero, List.set_cons_succ, i64_w, i32_w]
                rfl
              refine pure_ (i := 3) (N := some 37) (v := ?_) (a' := ?_) #[true, true, false, true, false, false, false, false, false, false, false, false, false] rfl rfl (any_of HT_.out (by kernel_rfl)) (fun _ _ _ h => h) (Or.inl ⟨by rfl, ?_⟩) ?_ ?_
              rotate_left
              · intro w'
                go_simp
                with_reducible rfl
              rotate_left
              · simp only [Act.put, List.setIfInBounds_toArray, List.set_cons_zero, List.set_cons_succ, i64_w, i32_w]
                rfl
              refine pure_ (i := 8) (N := some 42) (v := ?_) (a' := ?_) #[true, true, false, true, false, false, false, false, true, false, false, false, false] rfl rfl (any_of HT_.out (by kernel_rfl)) (fun _ _ _ h => h) (Or.inl ⟨by rfl, ?_⟩) ?_ ?_
              rotate_left
              · intro w'
                go_simp
                with_reducible rfl
              rotate_left
              · simp only [Act.put, List.setIfInBounds_toArray, List.set_cons_zero, List.set_cons_succ, i64_w, i32_w]
                rfl
              refine pure_ (i := 9) (N := some 43) (v := ?_) (a' := ?_) #[true, true, false, true, false, false, false, false, true, true, false, false, false] rfl rfl (any_of HT_.out (by kernel_rfl)) (fun _ _ _ h => h) (Or.inl ⟨by rfl, ?_⟩) ?_ ?_
              rotate_left
              · intro w'
                go_simp
                with_reducible rfl
              rotate_left
              · simp only [Act.put, List.setIfInBounds_toArray, List.set_cons_zero, List.set_cons_succ, i64_w, i32_w]
                rfl
              refine take_ (i := 2) (N := some 36) (v := ?_) (a' := ?_) #[true, true, true, true, false, false, false, false, true, true, false, false, false] rfl rfl (take_ofW HT_.out HW_.out (by kernel_rfl)) (fun _ _ _ h => h) (Or.inl ⟨by rfl, ?_⟩) hHeld ?_ ?_
              rotate_left
              · rintro w' ⟨s0, s1⟩
                go_simp
                with_reducible rfl
              rotate_left
              · simp only [Act.put, List.setIfInBounds_toArray, List.set_cons_zero, List.set_cons_succ, i64_w, i32_w]
                rfl
              refine take_ (i := 10) (N := some 44) (v := ?_) (a' := ?_) #[true, true, true, true, false, false, false, false, true, true, true, false, false] rfl rfl (take_ofW HT_.out HW_.out (by kernel_rfl)) (fun _ _ _ h => h) (Or.inl ⟨by rfl, ?_⟩) hHeld ?_ ?_
              rotate_left
              · rintro w' ⟨s0, s1⟩
                go_simp
                with_reducible rfl
              rotate_left
              · simp only [Act.put, List.setIfInBounds_toArray, List.set_cons_zero, List.set_cons_succ, i64_w, i32_w]
                rfl
              refine one_ (i := 4) (N := some 38) #[true, true, true, true, true, false, false, false, true, true, true, false, false] rfl rfl (one_of HT_.out (by kernel_rfl)) (by decide) (fun K hK => ?_)
              refine goes_ Try.func36 (by kernel_rfl) rfl #[.pointer (some ⟨g, 0, none⟩), .int .i64 2] (by rfl) rfl rfl (by (try simp only [List.map_toArray, List.map_cons, List.map_nil]); first | done | rfl | (simp only [List.length_drop, List.length_take]; rfl)) ?_
              with_reducible refine (spec_l6Rd_pick.calls kj15 g s0_0 x1001_15 2 t243 t244 w0 _ ?side1 ?side2 A28.out).mono ?_
              (case side1 => repeat (first | (with_reducible first | exact HI0.out | apply IsS60.alloc | apply IsS60.drewN | apply IsS60.drew | apply IsS60.set_1) | exact HI0.out))
              (case side2 => repeat (first | (with_reducible first | exact HB.out | apply below_alloc | apply pw_below_drewN | apply below_drew1 | refine below_set ?_ (IsS60.ge HI0.out)) | exact HB.out))
              rintro e w33 ⟨rfl, hi, hb, hk⟩; have HS0_ := keep_cell hk (hHeld.1) (by first | (rw [add_block]; exact Kd.own_blk (IsS60.own_ne HI0.out HO_5.out (by decide))) | (show (Addr.add _ _).block ≠ _; rw [add_block]; exact Kd.own_blk (IsS60.own_ne HI0.out HO_5.out (by decide))) | (have hh_ := IsS60.own_ne HI0.out HO_5.out (by decide); exact (Kd.own_blk hh_ :))); have HS1_ := keep_cell hk (hHeld.2) (by first | (rw [add_block]; exact Kd.own_blk (IsS60.own_ne HI0.out HO_5.out (by decide))) | (show (Addr.add _ _).block ≠ _; rw [add_block]; exact Kd.own_blk (IsS60.own_ne HI0.out HO_5.out (by decide))) | (have hh_ := IsS60.own_ne HI0.out HO_5.out (by decide); exact (Kd.own_blk hh_ :)))
              refine ⟨_, rfl, ?_⟩
              replace HO_5 := Aside0.mk (Kd.R_mono (Kd.R_keep (IsS60.apart (show IsS60 w0 _ g s0_0 x1001_15 from by repeat (first | (with_reducible first | exact HI0.out | apply IsS60.alloc | apply IsS60.drewN | apply IsS60.drew | apply IsS60.set_1) | exact HI0.out)) (U HO_5.out) (by decide)) hk (fun _ h => h.2)) (fun _ h => h.1)); replace HK := Aside0.mk (KeepBut.trans KU hk (.inl rfl)); replace HB := Aside0.mk (hb); replace HI0 := Aside0.mk (hi); (try clear hb); (try clear hb2); (try clear hk); (try clear hi)
              refine hK.out _ _ ⟨HS0_, HS1_⟩ (fun hHeld => ?_)
              clear hK K
              refine norm_ (a' := ?_) ?_ ?_
              rotate_left
              · show Act.put _ (some 38) _ = _
                simp only [Act.put, List.setIfInBounds_toArray, List.set_cons_zero, List.set_cons_succ, i64_w, i32_w]
                rfl
              refine pure_ (i := 5) (N := some 39) (v := ?_) (a' := ?_) #[true, true, true, true, true, true, false, false, true, true, true, false, false] rfl rfl (any_of HT_.out (by kernel_rfl)) (fun _ _ _ h => h) (Or.inl ⟨by rfl, ?_⟩) ?_ ?_
              rotate_left
              · intro w'
                go_simp
                with_reducible rfl
              rotate_left
              · simp only [Act.put, List.setIfInBounds_toArray, List.set_cons_zero, List.set_cons_succ, i64_w, i32_w]
                rfl
              refine pure_ (i := 6) (N := some 40) (v := ?_) (a' := ?_) #[true, true, true, true, true, true, true, false, true, true, true, false, false] rfl rfl (any_of HT_.out (by kernel_rfl)) (fun _ _ _ h => h) (Or.inl ⟨by rfl, ?_⟩) ?_ ?_
              rotate_left
              · intro w'
                go_simp
                with_reducible rfl
              rotate_left
              · simp only [Act.put, List.setIfInBounds_toArray, List.set_cons_zero, List.set_cons_succ, i64_w, i32_w]
                rfl
              refine pure_ (i := 7) (N := some 41) (v := ?_) (a' := ?_) #[true, true, true, true, true, true, true, true, true, true, true, false, false] rfl rfl (any_of HT_.out (by kernel_rfl)) (fun _ _ _ h => h) (Or.inl ⟨by rfl, ?_⟩) ?_ ?_
              rotate_left
              · intro w'
                go_simp
                with_reducible rfl
              rotate_left
              · simp only [Act.put, List.setIfInBounds_toArray, List.set_cons_zero, List.set_cons_succ, i64_w, i32_w]
                rfl
              refine pure_ (i := 11) (N := some 45) (v := ?_) (a' := ?_) #[true, true, true, true, true, true, true, true, true, true, true, true, false] rfl rfl (any_of HT_.out (by kernel_rfl)) (fun _ _ _ h => h) (Or.inl ⟨by rfl, ?_⟩) ?_ ?_
              rotate_left
              · intro w'
                go_simp
                with_reducible rfl
              rotate_left
              · simp only [Act.put, List.setIfInBounds_toArray, List.set_cons_zero, List.set_cons_succ, i64_w, i32_w]
                rfl
              refine pure_ (i := 12) (N := some 6) (v := ?_) (a' := ?_) #[true, true, true, true, true, true, true, true, true, true, true, true, true] rfl rfl (any_of HT_.out (by kernel_rfl)) (fun _ _ _ h => h) (Or.inl ⟨by rfl, ?_⟩) ?_ ?_
              rotate_left
              · intro w'
                go_simp
                with_reducible rfl
              rotate_left
              · simp only [Act.put, List.setIfInBounds_toArray, List.set_cons_zero, List.set_cons_succ, i64_w, i32_w]
                rfl
              refine done_ (done_of HT_.out (by kernel_rfl)) ?_
              try go_wp2
              go_ret
              exact ⟨_, eR, U HO_5.out, by repeat (first | (with_reducible first | exact HI0.out | apply IsS60.alloc | apply IsS60.drewN | apply IsS60.drew | apply IsS60.set_1) | exact HI0.out), by repeat (first | (with_reducible first | exact HB.out | apply below_alloc | apply pw_below_drewN | apply below_drew1 | refine below_set ?_ (IsS60.ge HI0.out)) | exact HB.out), by repeat (first | (with_reducible first | exact HK.out | apply KeepBut.set_ | apply keep_drewN | apply keep_drew | apply keep_alloc) | exact HK.out)⟩
            rw [if_neg c30] at H; have c30b0 : ((wrap64 ((wrap64 (-(wrap64 ((rd x5_3 0) * (wrap64 (1 + t243)))))) - (rd x5_3 1))) == 0) = false := beq_eq_false_iff_ne.mpr c30; have c30b1 : ((wrap64 ((wrap64 (-(wrap64 ((rd x5_3 0) * (wrap64 (1 + t243)))))) - (rd x5_3 1))) != 0) = true := bne_iff_ne.mpr c30; obtain ⟨t246, A34, H⟩ := bnd H
            by_cases c35 : t246 ≤ 30
            · rw [if_pos c35] at H
              have c35b0 : decide (t246 ≤ 30) = true := decide_eq_true c35; clear c35; obtain ⟨c36, H⟩ := ifN H; have c36b0 : decide (2 < (x5_3.length : Int)) = true := decide_eq_true c36; have c36b1 : decide (2 < x5_3.length) = true := decide_eq_true (by omega); clear c36; obtain ⟨y247, hy247⟩ : ∃ y_ : List Int, y_ = (x5_3.set (2 : Int).toNat (wrap64 ((wrap64 (-(wrap64 ((rd x5_3 0) * (wrap64 (1 + t243)))))) - (rd x5_3 1)))) := ⟨_, rfl⟩; replace H : (some (y247, t244)) = some (r1, r2) := rH hy247 H; have Ny247 := Aside0.mk hy247; clear hy247; simp only [Option.some.injEq, Prod.mk.injEq] at H; obtain ⟨rfl, rfl⟩ := H
              try go_wp2
              replace HO_5 := Aside0.mk (Kd.R_drew HO_5.out); replace HI0 := Aside0.mk (IsS60.drew HI0.out); replace HK := Aside0.mk (keep_drew HK.out); replace HB := Aside0.mk (below_drew1 HB.out); obtain ⟨Ao39, co39, eo39⟩ := Kd.R_slice HO_5.out
              (first | subst eo39 | (injection eo39 with f1_ f2_ f3_; have f4_ := f1_.symm; have f5_ := f3_.symm; clear f1_ f2_ f3_; subst f4_; subst f5_))
              have p242 : 0 ≤ (0 : Int) := (by omega); have q242 : 0 < (x5_3.length : Int) := oD; obtain ⟨ad242, e242, hx242_0⟩ := Kd.at_int (Kd.R_reads' HO_5.out).2.2 0 p242 q242; cases e242; have qi242 : (0 < x5_3.length) = True := eq_true (by omega)
              (try rw [show ((0 : Int)).toNat = 0 from rfl] at hx242_0)
              (try rw [Addr.add_zero'] at hx242_0)
              replace p242 := eq_true p242; replace q242 := eq_true q242; have p245 : 0 ≤ (1 : Int) := (by omega); have q245 : 1 < (x5_3.length : Int) := oD; obtain ⟨ad245, e245, hx245_0⟩ := Kd.at_int (Kd.R_reads' HO_5.out).2.2 1 p245 q245; obtain rfl : ad242 = ad245 := (by injection e245)
              (try simp only [show (1 : Int).toNat = 1 from rfl, Nat.reduceMul, Nat.reduceEqDiff, Go.Addr.add, ↓reduceIte] at hx245_0)
              have qi245 : (1 < x5_3.length) = True := eq_true (by omega)
              (try rw [show ((1 : Int)).toNat = 1 from rfl] at hx245_0)
              replace p245 := eq_true p245; replace q245 := eq_true q245
              refine start_ (n := 13) (S := fun w' => w'.cell? ad242 = some (.int .i64 (rd x5_3 0)) ∧ w'.cell? ⟨ad242.block, ad242.off + 1, none⟩ = some (.int .i64 (rd x5_3 1))) (ds := []) #[false, false, false, false, false, false, false, false, false, false, false, false, false] (by kernel_rfl) rfl rfl ⟨hx242_0, hx245_0⟩ (fun hHeld => ?_); refine with_tabW spec_l92Form.tab5 spec_l92Form.bits5 (fun HT_ HW_ => ?_)
              generalize wc.drew = w38 at HO_5 HI0 HK HB hx242_0 hx245_0 hHeld ⊢
              refine pure_ (i := 0) (N := some 34) (v := ?_) (a' := ?_) #[true, false, false, false, false, false, false, false, false, false, false, false, false] rfl rfl (any_of HT_.out (by kernel_rfl)) (fun _ _ _ h => h) (Or.inl ⟨by rfl, ?_⟩) ?_ ?_
              rotate_left
              · intro w'
                go_simp
                with_reducible rfl
              rotate_left
              · simp only [Act.put, List.setIfInBounds_toArray, List.set_cons_zero, List.set_cons_succ, i64_w, i32_w]
                rfl
              refine pure_ (i := 1) (N := some 35) (v := ?_) (a' := ?_) #[true, true, false, false, false, false, false, false, false, false, false, false, false] rfl rfl (any_of HT_.out (by kernel_rfl)) (fun _ _ _ h => h) (Or.inl ⟨by rfl, ?_⟩) ?_ ?_
              rotate_left
              · intro w'
                go_simp
                with_reducible rfl
              rotate_left
              · simp only [Act.put, List.setIfInBounds_toArray, List.set_cons_zero, List.set_cons_succ, i64_w, i32_w]
                rfl
              refine pure_ (i := 3) (N := some 37) (v := ?_) (a' := ?_) #[true, true, false, true, false, false, false, false, false, false, false, false, false] rfl rfl (any_of HT_.out (by kernel_rfl)) (fun _ _ _ h => h) (Or.inl ⟨by rfl, ?_⟩) ?_ ?_
              rotate_left
              · intro w'
                go_simp
                with_reducible rfl
              rotate_left
              · simp only [Act.put, List.setIfInBounds_toArray, List.set_cons_zero, List.set_cons_succ, i64_w, i32_w]
                rfl
              refine pure_ (i := 8) (N := some 42) (v := ?_) (a' := ?_) #[true, true, false, true, false, false, false, false, true, false, false, false, false] rfl rfl (any_of HT_.out (by kernel_rfl)) (fun _ _ _ h => h) (Or.inl ⟨by rfl, ?_⟩) ?_ ?_
              rotate_left
              · intro w'
                go_simp
                with_reducible rfl
              rotate_left
              · simp only [Act.put, List.setIfInBounds_toArray, List.set_cons_zero, List.set_cons_succ, i64_w, i32_w]
                rfl
              refine pure_ (i := 9) (N := some 43) (v := ?_) (a' := ?_) #[true, true, false, true, false, false, false, false, true, true, false, false, false] rfl rfl (any_of HT_.out (by kernel_rfl)) (fun _ _ _ h => h) (Or.inl ⟨by rfl, ?_⟩) ?_ ?_
              rotate_left
              · intro w'
                go_simp
                with_reducible rfl
              rotate_left
              · simp only [Act.put, List.setIfInBounds_toArray, List.set_cons_zero, List.set_cons_succ, i64_w, i32_w]
                rfl
              refine take_ (i := 2) (N := some 36) (v := ?_) (a' := ?_) #[true, true, true, true, false, false, false, false, true, true, false, false, false] rfl rfl (take_ofW HT_.out HW_.out (by kernel_rfl)) (fun _ _ _ h => h) (Or.inl ⟨by rfl, ?_⟩) hHeld ?_ ?_
              rotate_left
              · rintro w' ⟨s0, s1⟩
                go_simp
                with_reducible rfl
              rotate_left
              · simp only [Act.put, List.setIfInBounds_toArray, List.set_cons_zero, List.set_cons_succ, i64_w, i32_w]
                rfl
              refine take_ (i := 10) (N := some 44) (v := ?_) (a' := ?_) #[true, true, true, true, false, false, false, false, true, true, true, false, false] rfl rfl (take_ofW HT_.out HW_.out (by kernel_rfl)) (fun _ _ _ h => h) (Or.inl ⟨by rfl, ?_⟩) hHeld ?_ ?_
              rotate_left
              · rintro w' ⟨s0, s1⟩
                go_simp
                with_reducible rfl
              rotate_left
              · simp only [Act.put, List.setIfInBounds_toArray, List.set_cons_zero, List.set_cons_succ, i64_w, i32_w]
                rfl
              refine one_ (i := 4) (N := some 38) #[true, true, true, true, true, false, false, false, true, true, true, false, false] rfl rfl (one_of HT_.out (by kernel_rfl)) (by decide) (fun K hK => ?_)
              refine goes_ Try.func36 (by kernel_rfl) rfl #[.pointer (some ⟨g, 0, none⟩), .int .i64 2] (by rfl) rfl rfl (by (try simp only [List.map_toArray, List.map_cons, List.map_nil]); first | done | rfl | (simp only [List.length_drop, List.length_take]; rfl)) ?_
              with_reducible refine (spec_l6Rd_pick.calls kj15 g s0_0 x1001_15 2 t243 t244 w0 _ ?side1 ?side2 A28.out).mono ?_
              (case side1 => repeat (first | (with_reducible first | exact HI0.out | apply IsS60.alloc | apply IsS60.drewN | apply IsS60.drew | apply IsS60.set_1) | exact HI0.out))
              (case side2 => repeat (first | (with_reducible first | exact HB.out | apply below_alloc | apply pw_below_drewN | apply below_drew1 | refine below_set ?_ (IsS60.ge HI0.out)) | exact HB.out))
              rintro e w40 ⟨rfl, hi, hb, hk⟩; have HS0_ := keep_cell hk (hHeld.1) (by first | (rw [add_block]; exact Kd.own_blk (IsS60.own_ne HI0.out HO_5.out (by decide))) | (show (Addr.add _ _).block ≠ _; rw [add_block]; exact Kd.own_blk (IsS60.own_ne HI0.out HO_5.out (by decide))) | (have hh_ := IsS60.own_ne HI0.out HO_5.out (by decide); exact (Kd.own_blk hh_ :))); have HS1_ := keep_cell hk (hHeld.2) (by first | (rw [add_block]; exact Kd.own_blk (IsS60.own_ne HI0.out HO_5.out (by decide))) | (show (Addr.add _ _).block ≠ _; rw [add_block]; exact Kd.own_blk (IsS60.own_ne HI0.out HO_5.out (by decide))) | (have hh_ := IsS60.own_ne HI0.out HO_5.out (by decide); exact (Kd.own_blk hh_ :)))
              refine ⟨_, rfl, ?_⟩
              replace HO_5 := Aside0.mk (Kd.R_mono (Kd.R_keep (IsS60.apart (show IsS60 w0 _ g s0_0 x1001_15 from by repeat (first | (with_reducible first | exact HI0.out | apply IsS60.alloc | apply IsS60.drewN | apply IsS60.drew | apply IsS60.set_1) | exact HI0.out)) (U HO_5.out) (by decide)) hk (fun _ h => h.2)) (fun _ h => h.1)); replace HK := Aside0.mk (KeepBut.trans KU hk (.inl rfl)); replace HB := Aside0.mk (hb); replace HI0 := Aside0.mk (hi); (try clear hb); (try clear hb2); (try clear hk); (try clear hi)
              refine hK.out _ _ ⟨HS0_, HS1_⟩ (fun hHeld => ?_)
              clear hK K
              refine norm_ (a' := ?_) ?_ ?_
              rotate_left
              · show Act.put _ (some 38) _ = _
                simp only [Act.put, List.setIfInBounds_toArray, List.set_cons_zero, List.set_cons_succ, i64_w, i32_w]
                rfl
              refine pure_ (i := 5) (N := some 39) (v := ?_) (a' := ?_) #[true, true, true, true, true, true, false, false, true, true, true, false, false] rfl rfl (any_of HT_.out (by kernel_rfl)) (fun _ _ _ h => h) (Or.inl ⟨by rfl, ?_⟩) ?_ ?_
              rotate_left
              · intro w'
                go_simp
                with_reducible rfl
              rotate_left
              · simp only [Act.put, List.setIfInBounds_toArray, List.set_cons_zero, List.set_cons_succ, i64_w, i32_w]
                rfl
              refine pure_ (i := 6) (N := some 40) (v := ?_) (a' := ?_) #[true, true, true, true, true, true, true, false, true, true, true, false, false] rfl rfl (any_of HT_.out (by kernel_rfl)) (fun _ _ _ h => h) (Or.inl ⟨by rfl, ?_⟩) ?_ ?_
              rotate_left
              · intro w'
                go_simp
                with_reducible rfl
              rotate_left
              · simp only [Act.put, List.setIfInBounds_toArray, List.set_cons_zero, List.set_cons_succ, i64_w, i32_w]
                rfl
              refine pure_ (i := 7) (N := some 41) (v := ?_) (a' := ?_) #[true, true, true, true, true, true, true, true, true, true, true, false, false] rfl rfl (any_of HT_.out (by kernel_rfl)) (fun _ _ _ h => h) (Or.inl ⟨by rfl, ?_⟩) ?_ ?_
              rotate_left
              · intro w'
                go_simp
                with_reducible rfl
              rotate_left
              · simp only [Act.put, List.setIfInBounds_toArray, List.set_cons_zero, List.set_cons_succ, i64_w, i32_w]
                rfl
              refine pure_ (i := 11) (N := some 45) (v := ?_) (a' := ?_) #[true, true, true, true, true, true, true, true, true, true, true, true, false] rfl rfl (any_of HT_.out (by kernel_rfl)) (fun _ _ _ h => h) (Or.inl ⟨by rfl, ?_⟩) ?_ ?_
              rotate_left
              · intro w'
                go_simp
                with_reducible rfl
              rotate_left
              · simp only [Act.put, List.setIfInBounds_toArray, List.set_cons_zero, List.set_cons_succ, i64_w, i32_w]
                rfl
              refine pure_ (i := 12) (N := some 6) (v := ?_) (a' := ?_) #[true, true, true, true, true, true, true, true, true, true, true, true, true] rfl rfl (any_of HT_.out (by kernel_rfl)) (fun _ _ _ h => h) (Or.inl ⟨by rfl, ?_⟩) ?_ ?_
              rotate_left
              · intro w'
                go_simp
                with_reducible rfl
              rotate_left
              · simp only [Act.put, List.setIfInBounds_toArray, List.set_cons_zero, List.set_cons_succ, i64_w, i32_w]
                rfl
              refine done_ (done_of HT_.out (by kernel_rfl)) ?_
              try go_wp2_with (first | (go_at_call 62; (with_reducible refine (spec_l1Size.calls (wrap64 ((wrap64 (-(wrap64 ((rd x5_3 0) * (wrap64 (1 + t243)))))) - (rd x5_3 1))) t246 _ A34.out).mono ?_); rintro e w41 ⟨rfl, hb⟩; replace HO_5 := Aside0.mk (Kd.R_below (U HO_5.out) hb); replace HK := Aside0.mk (KeepBut.trans KU (KeepBut.of_below hb g none) (.inl rfl)); replace HB := Aside0.mk (below_step (by repeat (first | (with_reducible first | exact HB.out | apply below_alloc | apply pw_below_drewN | apply below_drew1 | refine below_set ?_ (IsS60.ge HI0.out)) | exact HB.out)) hb); replace HI0 := Aside0.mk (IsS60.below (by repeat (first | (with_reducible first | exact HI0.out | apply IsS60.alloc | apply IsS60.drewN | apply IsS60.drew | apply IsS60.set_1) | exact HI0.out)) hb); (try clear hb); have p37 : 0 ≤ (2 : Int) := (by omega); have q37 : (2 : Int) < ((x5_3.length : Int) : Int) := oD; have qi37 : (2 < x5_3.length) = True := eq_true (by omega); obtain ⟨go37, co37, eo37, gb37, gl37, cl37, HG37⟩ := Kd.R_form HO_5.out (by omega); (first | cases eo37 | (injection eo37 with ea_ en_ ec_; (first | subst ea_ | (injection ea_ with ea_; subst ea_)); subst ec_; clear en_)); have GB37 := Aside0.mk gb37; have GG37 := Aside0.mk HG37; clear gb37 gl37 HG37; (first | simp only [add_plain] at hx242_0 | skip); (first | simp only [add_plain] at hx245_0 | skip); obtain ⟨hx37_0, hf37_0⟩ := Kd.R_celln 0 HO_5.out (2 : Int) p37 q37; (try rw [show ((2 : Int)).toNat = 2 from rfl] at hx37_0); (try simp only [Nat.reduceMul, Nat.zero_mul, Nat.zero_add, Nat.reduceAdd] at hx37_0); (try rw [show ((2 : Int)).toNat = 2 from rfl] at hf37_0); (try simp only [Nat.reduceMul, Nat.zero_mul, Nat.zero_add, Nat.reduceAdd] at hf37_0); replace p37 := eq_true p37; replace q37 := eq_true q37; obtain ⟨hy42_, hz42_⟩ := Kd.R_celln 0 HO_5.out (2 : Int) (by omega) (oD); (try simp only [Int.reduceToNat, Int.toNat_zero, Int.toNat_ofNat, Nat.reduceMul, Nat.zero_mul, Nat.zero_add] at hy42_ hz42_); (try rw [show ((2 : Int)).toNat = 2 from rfl] at hy42_); (try rw [show ((2 : Int)).toNat = 2 from rfl] at hz42_); have HP42 := Kd.R_putg HO_5.out (2 : Int) (wrap64 ((wrap64 (-(wrap64 ((rd x5_3 0) * (wrap64 (1 + t243)))))) - (rd x5_3 1)))) | ((with_reducible refine gate_store (t := 3) (p := 55) rfl ?_); refine store_event (t := 3) (p := 55) (v := ?vo_w43) (w1 := (w41.setCell ⟨go37, (2 : Int).toNat, none⟩ (.int .i64 (wrap64 ((wrap64 (-(wrap64 ((rd x5_3 0) * (wrap64 (1 + t243)))))) - (rd x5_3 1)))))) ?hg ?ho ?hn ?hr ?_; (case ho => rfl); (case hg => rfl); (case hn => rfl); (case hr => first | (go_simp; done) | (go_simp; rfl)); intro w43 hw; have hg : w41.grownBy w43 (some go37) := (by rw [hw]; exact HP42.2); have hp_ : Kd.R (Kd.int .i64) 3 w43 w.heap.size (fun _ => True) (.slice (some ⟨go37, 0, none⟩) x5_3.length co39) y247 := (by rw [hw, Ny247.out]; exact HP42.1); clear HP42; replace HI0 := Aside0.mk (IsS60.grown (by repeat (first | (with_reducible first | exact HI0.out | apply IsS60.alloc | apply IsS60.drewN | apply IsS60.drew | apply IsS60.set_1) | exact HI0.out)) hg (IsS60.own_ne HI0.out HO_5.out (by decide))); replace HB := Aside0.mk ((by rw [hw]; exact below_set (HB.out) (Nat.le_trans HL.out GB37.out) : Below w0.heap.size w0 w43)); replace HK := Aside0.mk (KeepBut.trans KU (KeepBut.of_grown hg g) (Kd.R_base2 HO_5.out)); replace HO_5 := Aside0.mk (hp_); clear hg hw hp_))
              go_ret
              exact ⟨_, eR, U HO_5.out, by repeat (first | (with_reducible first | exact HI0.out | apply IsS60.alloc | apply IsS60.drewN | apply IsS60.drew | apply IsS60.set_1) | exact HI0.out), by repeat (first | (with_reducible first | exact HB.out | apply below_alloc | apply pw_below_drewN | apply below_drew1 | refine below_set ?_ (IsS60.ge HI0.out)) | exact HB.out), by repeat (first | (with_reducible first | exact HK.out | apply KeepBut.set_ | apply keep_drewN | apply keep_drew | apply keep_alloc) | exact HK.out)⟩
            rw [if_neg c35] at H; have c35b0 : decide (t246 ≤ 30) = false := decide_eq_false c35; clear c35; simp only [Option.some.injEq, Prod.mk.injEq] at H; obtain ⟨rfl, rfl⟩ := H
            try go_wp2
            replace HO_5 := Aside0.mk (Kd.R_drew HO_5.out); replace HI0 := Aside0.mk (IsS60.drew HI0.out); replace HK := Aside0.mk (keep_drew HK.out); replace HB := Aside0.mk (below_drew1 HB.out); obtain ⟨Ao45, co45, eo45⟩ := Kd.R_slice HO_5.out
            (first | subst eo45 | (injection eo45 with f1_ f2_ f3_; have f4_ := f1_.symm; have f5_ := f3_.symm; clear f1_ f2_ f3_; subst f4_; subst f5_))
            have p242 : 0 ≤ (0 : Int) := (by omega); have q242 : 0 < (x5_3.length : Int) := oD; obtain ⟨ad242, e242, hx242_0⟩ := Kd.at_int (Kd.R_reads' HO_5.out).2.2 0 p242 q242; cases e242; have qi242 : (0 < x5_3.length) = True := eq_true (by omega)
            (try rw [show ((0 : Int)).toNat = 0 from rfl] at hx242_0)
            (try rw [Addr.add_zero'] at hx242_0)
            replace p242 := eq_true p242; replace q242 := eq_true q242; have p245 : 0 ≤ (1 : Int) := (by omega); have q245 : 1 < (x5_3.length : Int) := oD; obtain ⟨ad245, e245, hx245_0⟩ := Kd.at_int (Kd.R_reads' HO_5.out).2.2 1 p245 q245; obtain rfl : ad242 = ad245 := (by injection e245)
            (try simp only [show (1 : Int).toNat = 1 from rfl, Nat.reduceMul, Nat.reduceEqDiff, Go.Addr.add, ↓reduceIte] at hx245_0)
            have qi245 : (1 < x5_3.length) = True := eq_true (by omega)
            (try rw [show ((1 : Int)).toNat = 1 from rfl] at hx245_0)
            replace p245 := eq_true p245; replace q245 := eq_true q245
            refine start_ (n := 13) (S := fun w' => w'.cell? ad242 = some (.int .i64 (rd x5_3 0)) ∧ w'.cell? ⟨ad242.block, ad242.off + 1, none⟩ = some (.int .i64 (rd x5_3 1))) (ds := []) #[false, false, false, false, false, false, false, false, false, false, false, false, false] (by kernel_rfl) rfl rfl ⟨hx242_0, hx245_0⟩ (fun hHeld => ?_); refine with_tabW spec_l92Form.tab5 spec_l92Form.bits5 (fun HT_ HW_ => ?_)
            generalize wc.drew = w44 at HO_5 HI0 HK HB hx242_0 hx245_0 hHeld ⊢
            refine pure_ (i := 0) (N := some 34) (v := ?_) (a' := ?_) #[true, false, false, false, false, false, false, false, false, false, false, false, false] rfl rfl (any_of HT_.out (by kernel_rfl)) (fun _ _ _ h => h) (Or.inl ⟨by rfl, ?_⟩) ?_ ?_
            rotate_left
            · intro w'
              go_simp
              with_reducible rfl
            rotate_left
            · simp only [Act.put, List.setIfInBounds_toArray, List.set_cons_zero, List.set_cons_succ, i64_w, i32_w]
              rfl
            refine pure_ (i := 1) (N := some 35) (v := ?_) (a' := ?_) #[true, true, false, false, false, false, false, false, false, false, false, false, false] rfl rfl (any_of HT_.out (by kernel_rfl)) (fun _ _ _ h => h) (Or.inl ⟨by rfl, ?_⟩) ?_ ?_
            rotate_left
            · intro w'
              go_simp
              with_reducible rfl
            rotate_left
            · simp only [Act.put, List.setIfInBounds_toArray, List.set_cons_zero, List.set_cons_succ, i64_w, i32_w]
              rfl
            refine pure_ (i := 3) (N := some 37) (v := ?_) (a' := ?_) #[true, true, false, true, false, false, false, false, false, false, false, false, false] rfl rfl (any_of HT_.out (by kernel_rfl)) (fun _ _ _ h => h) (Or.inl ⟨by rfl, ?_⟩) ?_ ?_
            rotate_left
            · intro w'
              go_simp
              with_reducible rfl
            rotate_left
            · simp only [Act.put, List.setIfInBounds_toArray, List.set_cons_zero, List.set_cons_succ, i64_w, i32_w]
              rfl
            refine pure_ (i := 8) (N := some 42) (v := ?_) (a' := ?_) #[true, true, false, true, false, false, false, false, true, false, false, false, false] rfl rfl (any_of HT_.out (by kernel_rfl)) (fun _ _ _ h => h) (Or.inl ⟨by rfl, ?_⟩) ?_ ?_
            rotate_left
            · intro w'
              go_simp
              with_reducible rfl
            rotate_left
            · simp only [Act.put, List.setIfInBounds_toArray, List.set_cons_zero, List.set_cons_succ, i64_w, i32_w]
              rfl
            refine pure_ (i := 9) (N := some 43) (v := ?_) (a' := ?_) #[true, true, false, true, false, false, false, false, true, true, false, false, false] rfl rfl (any_of HT_.out (by kernel_rfl)) (fun _ _ _ h => h) (Or.inl ⟨by rfl, ?_⟩) ?_ ?_
            rotate_left
            · intro w'
              go_simp
              with_reducible rfl
            rotate_left
            · simp only [Act.put, List.setIfInBounds_toArray, List.set_cons_zero, List.set_cons_succ, i64_w, i32_w]
              rfl
            refine take_ (i := 2) (N := some 36) (v := ?_) (a' := ?_) #[true, true, true, true, false, false, false, false, true, true, false, false, false] rfl rfl (take_ofW HT_.out HW_.out (by kernel_rfl)) (fun _ _ _ h => h) (Or.inl ⟨by rfl, ?_⟩) hHeld ?_ ?_
            rotate_left
            · rintro w' ⟨s0, s1⟩
              go_simp
              with_reducible rfl
            rotate_left
            · simp only [Act.put, List.setIfInBounds_toArray, List.set_cons_zero, List.set_cons_succ, i64_w, i32_w]
              rfl
            refine take_ (i := 10) (N := some 44) (v := ?_) (a' := ?_) #[true, true, true, true, false, false, false, false, true, true, true, false, false] rfl rfl (take_ofW HT_.out HW_.out (by kernel_rfl)) (fun _ _ _ h => h) (Or.inl ⟨by rfl, ?_⟩) hHeld ?_ ?_
            rotate_left
            · rintro w' ⟨s0, s1⟩
              go_simp
              with_reducible rfl
            rotate_left
            · simp only [Act.put, List.setIfInBounds_toArray, List.set_cons_zero, List.set_cons_succ, i64_w, i32_w]
              rfl
            refine one_ (i := 4) (N := some 38) #[true, true, true, true, true, false, false, false, true, true, true, false, false] rfl rfl (one_of HT_.out (by kernel_rfl)) (by decide) (fun K hK => ?_)
            refine goes_ Try.func36 (by kernel_rfl) rfl #[.pointer (some ⟨g, 0, none⟩), .int .i64 2] (by rfl) rfl rfl (by (try simp only [List.map_toArray, List.map_cons, List.map_nil]); first | done | rfl | (simp only [List.length_drop, List.length_take]; rfl)) ?_
            with_reducible refine (spec_l6Rd_pick.calls kj15 g s0_0 x1001_15 2 t243 t244 w0 _ ?side1 ?side2 A28.out).mono ?_
            (case side1 => repeat (first | (with_reducible first | exact HI0.out | apply IsS60.alloc | apply IsS60.drewN | apply IsS60.drew | apply IsS60.set_1) | exact HI0.out))
            (case side2 => repeat (first | (with_reducible first | exact HB.out | apply below_alloc | apply pw_below_drewN | apply below_drew1 | refine below_set ?_ (IsS60.ge HI0.out)) | exact HB.out))
            rintro e w46 ⟨rfl, hi, hb, hk⟩; have HS0_ := keep_cell hk (hHeld.1) (by first | (rw [add_block]; exact Kd.own_blk (IsS60.own_ne HI0.out HO_5.out (by decide))) | (show (Addr.add _ _).block ≠ _; rw [add_block]; exact Kd.own_blk (IsS60.own_ne HI0.out HO_5.out (by decide))) | (have hh_ := IsS60.own_ne HI0.out HO_5.out (by decide); exact (Kd.own_blk hh_ :))); have HS1_ := keep_cell hk (hHeld.2) (by first | (rw [add_block]; exact Kd.own_blk (IsS60.own_ne HI0.out HO_5.out (by decide))) | (show (Addr.add _ _).block ≠ _; rw [add_block]; exact Kd.own_blk (IsS60.own_ne HI0.out HO_5.out (by decide))) | (have hh_ := IsS60.own_ne HI0.out HO_5.out (by decide); exact (Kd.own_blk hh_ :)))
            refine ⟨_, rfl, ?_⟩
            replace HO_5 := Aside0.mk (Kd.R_mono (Kd.R_keep (IsS60.apart (show IsS60 w0 _ g s0_0 x1001_15 from by repeat (first | (with_reducible first | exact HI0.out | apply IsS60.alloc | apply IsS60.drewN | apply IsS60.drew | apply IsS60.set_1) | exact HI0.out)) (U HO_5.out) (by decide)) hk (fun _ h => h.2)) (fun _ h => h.1)); replace HK := Aside0.mk (KeepBut.trans KU hk (.inl rfl)); replace HB := Aside0.mk (hb); replace HI0 := Aside0.mk (hi); (try clear hb); (try clear hb2); (try clear hk); (try clear hi)
            refine hK.out _ _ ⟨HS0_, HS1_⟩ (fun hHeld => ?_)
            clear hK K
            refine norm_ (a' := ?_) ?_ ?_
            rotate_left
            · show Act.put _ (some 38) _ = _
              simp only [Act.put, List.setIfInBounds_toArray, List.set_cons_zero, List.set_cons_succ, i64_w, i32_w]
              rfl
            refine pure_ (i := 5) (N := some 39) (v := ?_) (a' := ?_) #[true, true, true, true, true, true, false, false, true, true, true, false, false] rfl rfl (any_of HT_.out (by kernel_rfl)) (fun _ _ _ h => h) (Or.inl ⟨by rfl, ?_⟩) ?_ ?_
            rotate_left
            · intro w'
              go_simp
              with_reducible rfl
            rotate_left
            · simp only [Act.put, List.setIfInBounds_toArray, List.set_cons_zero, List.set_cons_succ, i64_w, i32_w]
              rfl
            refine pure_ (i := 6) (N := some 40) (v := ?_) (a' := ?_) #[true, true, true, true, true, true, true, false, true, true, true, false, false] rfl rfl (any_of HT_.out (by kernel_rfl)) (fun _ _ _ h => h) (Or.inl ⟨by rfl, ?_⟩) ?_ ?_
            rotate_left
            · intro w'
              go_simp
              with_reducible rfl
            rotate_left
            · simp only [Act.put, List.setIfInBounds_toArray, List.set_cons_zero, List.set_cons_succ, i64_w, i32_w]
              rfl
            refine pure_ (i := 7) (N := some 41) (v := ?_) (a' := ?_) #[true, true, true, true, true, true, true, true, true, true, true, false, false] rfl rfl (any_of HT_.out (by kernel_rfl)) (fun _ _ _ h => h) (Or.inl ⟨by rfl, ?_⟩) ?_ ?_
            rotate_left
            · intro w'
              go_simp
              with_reducible rfl
            rotate_left
            · simp only [Act.put, List.setIfInBounds_toArray, List.set_cons_zero, List.set_cons_succ, i64_w, i32_w]
              rfl
            refine pure_ (i := 11) (N := some 45) (v := ?_) (a' := ?_) #[true, true, true, true, true, true, true, true, true, true, true, true, false] rfl rfl (any_of HT_.out (by kernel_rfl)) (fun _ _ _ h => h) (Or.inl ⟨by rfl, ?_⟩) ?_ ?_
            rotate_left
            · intro w'
              go_simp
              with_reducible rfl
            rotate_left
            · simp only [Act.put, List.setIfInBounds_toArray, List.set_cons_zero, List.set_cons_succ, i64_w, i32_w]
              rfl
            refine pure_ (i := 12) (N := some 6) (v := ?_) (a' := ?_) #[true, true, true, true, true, true, true, true, true, true, true, true, true] rfl rfl (any_of HT_.out (by kernel_rfl)) (fun _ _ _ h => h) (Or.inl ⟨by rfl, ?_⟩) ?_ ?_
            rotate_left
            · intro w'
              go_simp
              with_reducible rfl
            rotate_left
            · simp only [Act.put, List.setIfInBounds_toArray, List.set_cons_zero, List.set_cons_succ, i64_w, i32_w]
              rfl
            refine done_ (done_of HT_.out (by kernel_rfl)) ?_
            try go_wp2_with (first | (go_at_call 62; (with_reducible refine (spec_l1Size.calls (wrap64 ((wrap64 (-(wrap64 ((rd x5_3 0) * (wrap64 (1 + t243)))))) - (rd x5_3 1))) t246 _ A34.out).mono ?_); rintro e w47 ⟨rfl, hb⟩; replace HO_5 := Aside0.mk (Kd.R_below (U HO_5.out) hb); replace HK := Aside0.mk (KeepBut.trans KU (KeepBut.of_below hb g none) (.inl rfl)); replace HB := Aside0.mk (below_step (by repeat (first | (with_reducible first | exact HB.out | apply below_alloc | apply pw_below_drewN | apply below_drew1 | refine below_set ?_ (IsS60.ge HI0.out)) | exact HB.out)) hb); replace HI0 := Aside0.mk (IsS60.below (by repeat (first | (with_reducible first | exact HI0.out | apply IsS60.alloc | apply IsS60.drewN | apply IsS60.drew | apply IsS60.set_1) | exact HI0.out)) hb); (try clear hb)))
            go_ret
            exact ⟨_, eR, U HO_5.out, by repeat (first | (with_reducible first | exact HI0.out | apply IsS60.alloc | apply IsS60.drewN | apply IsS60.drew | apply IsS60.set_1) | exact HI0.out), by repeat (first | (with_reducible first | exact HB.out | apply below_alloc | apply pw_below_drewN | apply below_drew1 | refine below_set ?_ (IsS60.ge HI0.out)) | exact HB.out), by repeat (first | (with_reducible first | exact HK.out | apply KeepBut.set_ | apply keep_drewN | apply keep_drew | apply keep_alloc) | exact HK.out)⟩
          replace c26 := Bool.eq_false_iff.mpr c26; subst c26; replace H := ifF H; simp only [Option.some.injEq, Prod.mk.injEq] at H; obtain ⟨rfl, rfl⟩ := H
          go_wp2
          go_ret
          exact ⟨_, eR, U HO_5.out, by repeat (first | (with_reducible first | exact HI0.out | apply IsS60.alloc | apply IsS60.drewN | apply IsS60.drew | apply IsS60.set_1) | exact HI0.out), by repeat (first | (with_reducible first | exact HB.out | apply below_alloc | apply pw_below_drewN | apply below_drew1 | refine below_set ?_ (IsS60.ge HI0.out)) | exact HB.out), by repeat (first | (with_reducible first | exact HK.out | apply KeepBut.set_ | apply keep_drewN | apply keep_drew | apply keep_alloc) | exact HK.out)⟩

end Go.Proofs.Ytpjgcjkodmkemaa.PFnMany
