-- Written by a program of this session (wip/print2.py): the functions that the law reaches, plain, and the walks.
import Derived.Test.YtpjgcjkodmkemaaPFnZerox0
import Derived.Test.YtpjgcjkodmkemaaPFnZerox6
import Derived.Test.YtpjgcjkodmkemaaPFnZerox7
namespace Go.Proofs.Ytpjgcjkodmkemaa.PFnZero
open Go.RowKit Go.Proofs.YtpjgcjkodmkemaaW.PrintWords Go.Proofs.YtpjgcjkodmkemaaW.PrintLast Go.Proofs.YtpjgcjkodmkemaaW.PrintMore
attribute [local go_sem] max2_int min2_int max_two min_two max_three min_three max_four min_four   -- for this text's walks alone
set_option linter.unusedVariables false
set_option linter.unusedSimpArgs false

/-! ### spec_l91Vector: function 53 -/
def spec_l91Vector.l0 : Nat → List Int → Int → List Int → Int → List Int → Int → Option (List Int × Int)
  | 0, _, _, _, _, _, _ => none
  | k + 1, x1, x2, x7, x8, x1000, x1001 => if x8 < (x1.length : Int) then ((spec_l6Rd_pick.f k x1000 x1001 (wrap64 ((wrap64 (2 * x2)) + 1))).bind fun bt326 => (if x7.length < 17592186044416 then (spec_l91Vector.l0 k x1 x2 (x7 ++ [wrap64 (bt326.1 - x2)]) (wrap64 (x8 + 1)) x1000 bt326.2) else (none))) else (some (x7, x1001))
def spec_l91Vector.f (k : Nat) (s0_0 : List Int) (s0_1 : Int) (l1 : List Int) (a2 : Int) : Option (List Int × Int) := spec_l91Vector.l0 k l1 a2 (([] : List Int)) 0 s0_0 s0_1
theorem spec_l91Vector.mono_l : ∀ k, (∀ y0 y1 y2 y3 y4 y5, LeO (spec_l91Vector.l0 k y0 y1 y2 y3 y4 y5) (spec_l91Vector.l0 (k + 1) y0 y1 y2 y3 y4 y5))
  | 0 => fun _ _ _ _ _ _ r h => by simp [spec_l91Vector.l0] at h
  | k + 1 => by
    have ih0 := spec_l91Vector.mono_l k
    · intro y0 y1 y2 y3 y4 y5
      unfold spec_l91Vector.l0
      repeat' first
      | (with_reducible exact ih0 _ _ _ _ _ _)
      | (with_reducible exact spec_l6Rd_pick.mono _ _ _ _)
      | (with_reducible exact LeO.refl _)
      | (with_reducible exact LeO.none _)
      | (with_reducible refine LeO.ite ?_ ?_)
      | (with_reducible refine LeO.bind ?_ (fun _ => ?_))
      | exact ih0 _ _ _ _ _ _
      | exact spec_l6Rd_pick.mono _ _ _ _
      | exact LeO.none _
      | refine LeO.ite ?_ ?_
      | refine LeO.bind ?_ (fun _ => ?_)
theorem spec_l91Vector.mono : ∀ a0 a1 a2 a3 k, LeO (spec_l91Vector.f k a0 a1 a2 a3) (spec_l91Vector.f (k + 1) a0 a1 a2 a3) := by
  intro a0 a1 a2 a3 k
  have ih0 := spec_l91Vector.mono_l k
  unfold spec_l91Vector.f
  repeat' first
      | (with_reducible exact ih0 _ _ _ _ _ _)
      | (with_reducible exact spec_l6Rd_pick.mono _ _ _ _)
      | (with_reducible exact LeO.refl _)
      | (with_reducible exact LeO.none _)
      | (with_reducible refine LeO.ite ?_ ?_)
      | (with_reducible refine LeO.bind ?_ (fun _ => ?_))
      | exact ih0 _ _ _ _ _ _
      | exact spec_l6Rd_pick.mono _ _ _ _
      | exact LeO.none _
      | refine LeO.ite ?_ ?_
      | refine LeO.bind ?_ (fun _ => ?_)
set_option maxHeartbeats 8000000 in
set_option maxRecDepth 100000 in
theorem spec_l91Vector.calls (k : Nat) (g : Nat) (s0_0 : List Int) (s0_1 : Int) (A1 : Option Addr) (c1 : Nat) (l1 : List Int) (a2 : Int) (r1 : List Int) (r2 : Int) (w0 w : World) (hI : IsS60 w0 w g s0_0 s0_1) (hB : Below w0.heap.size w0 w) (hr1 : Kd.C (Kd.int .i64) w A1 l1.length l1) (hc1 : l1.length ≤ c1) (hf1 : ∀ ad, A1 = some ad → 0 < l1.length → ad.block ≠ g) (h : spec_l91Vector.f k s0_0 s0_1 l1 a2 = some (r1, r2)) :
    Calls Try.prog 53 #[.pointer (some ⟨g, 0, none⟩), .slice A1 l1.length c1, .int .i64 a2] w fun e w' => ∃ v0_ : Value, e = .returned (v0_) ∧ Kd.R (Kd.int .i64) 3 w' w.heap.size (fun _ => True) v0_ r1 ∧ IsS60 w0 w' g s0_0 r2 ∧ Below w0.heap.size w0 w' ∧ KeepBut w w' g none := by
  have HR1 := Aside0.mk hr1; have HC1 := Aside0.mk hc1; clear hr1 hc1; have HI0 := Aside0.mk hI; have HK := Aside0.mk (KeepBut.refl w g none); have HL := Aside0.mk hB.size; clear hI; have HW0 := Aside0.mk hB.size; have HB := Aside0.mk hB; clear hB; unfold spec_l91Vector.f at h; have H := h; clear h; obtain ⟨y323, hy323⟩ : ∃ y_ : List Int, y_ = (([] : List Int)) := ⟨_, rfl⟩; replace H : (spec_l91Vector.l0 k l1 a2 y323 0 s0_0 s0_1) = some (r1, r2) := rH hy323 H; have Ny323 := Aside0.mk hy323; clear hy323; have H' := Aside0.mk H; clear H; go_enter Try.func53, Try.ntmps53
  go_wp2_with (first | ((with_reducible refine gate_dst (N := 9) rfl ?_); refine Kd.R_lit (Kd.int .i64) _ 3 ?hg (N := 9) ?hd (xs := ([] : List Int)) (inner := []) (ok := fun _ => True) (okp := fun _ => True) ?hr ?hp (fun _ hk => hk) trivial (Below.refl _ _) (Nat.le_refl _) (by simp) ?_; (case hd => rfl); (case hg => rfl); (case hr => first | (go_simp; done) | (go_simp; rfl)); (case hp => exact (Reps.none _ _)); intro v324 w4 ho5 hb hg_ hnew_; clear hg_ hnew_; (first | rw [← Ny323.out] at ho5 | (simp only [Int.reduceToNat] at ho5; rw [← Ny323.out] at ho5)); have HO325 := Aside0.mk (Kd.R_lower ho5 (keep_size (w := w) (g := g) (row := none) KU)); replace HK := Aside0.mk (KeepBut.trans KU (KeepBut.of_below hb g none) (.inl rfl)); replace HB := Aside0.mk (below_step (by repeat (first | (with_reducible first | exact HB.out | apply below_alloc | apply pw_below_drewN | apply below_drew1 | refine below_set ?_ (IsS60.ge HI0.out)) | exact HB.out)) hb); replace HI0 := Aside0.mk (IsS60.below (by repeat (first | (with_reducible first | exact HI0.out | apply IsS60.alloc | apply IsS60.drewN | apply IsS60.drew | apply IsS60.set_1) | exact HI0.out)) hb); clear hb ho5))
  go_loopg [7, 8] k (fun kq v7 v8 w' => ∃ (x7_1 : List Int) (x8_1 : Int) (x1001_1 : Int), v8 = .int .i64 x8_1 ∧ Aside0 (spec_l91Vector.l0 kq l1 a2 x7_1 x8_1 s0_0 x1001_1 = some (r1, r2)) ∧ Aside0 (kq ≤ k) ∧ Aside0 (Kd.R (Kd.int .i64) 3 w' w.heap.size (fun _ => True) v7 x7_1) ∧ Aside0 (IsS60 w0 w' g s0_0 x1001_1) ∧ Aside0 (KeepBut w w' g none) ∧ Aside0 (Below w0.heap.size w0 w'))
  case atStart => exact ⟨(y323), (0), (s0_1), sR, H', ⟨Nat.le_refl _⟩, ⟨U HO325.out⟩, ⟨by repeat (first | (with_reducible first | exact HI0.out | apply IsS60.alloc | apply IsS60.drewN | apply IsS60.drew | apply IsS60.set_1) | exact HI0.out)⟩, ⟨by repeat (first | (with_reducible first | exact HK.out | apply KeepBut.set_ | apply keep_drewN | apply keep_drew | apply keep_alloc) | exact HK.out)⟩, ⟨by repeat (first | (with_reducible first | exact HB.out | apply below_alloc | apply pw_below_drewN | apply below_drew1 | refine below_set ?_ (IsS60.ge HI0.out)) | exact HB.out)⟩⟩
  case round =>
    clear H'; obtain ⟨x7_1, x8_1, x1001_1, rfl, HA, HK1, HO_7, HI0, HK, HB⟩ := hrel; cases gk with
    | zero => exact absurd HA.out (by simp [spec_l91Vector.l0])
    | succ k1 =>
      have H := HA.out; clear HA; simp only [spec_l91Vector.l0] at H
      by_cases c6 : x8_1 < (l1.length : Int)
      · rw [if_pos c6] at H
        have c6b0 : decide (x8_1 < (l1.length : Int)) = true := decide_eq_true c6; clear c6; obtain ⟨⟨t326, t327⟩, A7, H⟩ := bnd H; replace H : (if x7_1.length < 17592186044416 then (spec_l91Vector.l0 k1 l1 a2 (x7_1 ++ [wrap64 (t326 - a2)]) (wrap64 (x8_1 + 1)) s0_0 t327) else (none)) = some (r1, r2) := H; obtain ⟨c8, H⟩ := ifN H; have LMc8 := Aside0.mk c8; clear c8; obtain ⟨y328, hy328⟩ : ∃ y_ : List Int, y_ = (x7_1 ++ [wrap64 (t326 - a2)]) := ⟨_, rfl⟩; replace H : (spec_l91Vector.l0 k1 l1 a2 y328 (wrap64 (x8_1 + 1)) s0_0 t327) = some (r1, r2) := rH hy328 H; have Ny328 := Aside0.mk hy328; clear hy328; have H' := Aside0.mk H; clear H
        go_wp2_with (first | ((with_reducible refine gate_callee (f := 36) rfl ?_); refine goesK (some 21) Try.func36 #[.pointer (some ⟨g, 0, none⟩), .int .i64 (wrap64 ((wrap64 (2 * a2)) + 1))] ?_; (with_reducible refine (spec_l6Rd_pick.calls k1 g s0_0 x1001_1 (wrap64 ((wrap64 (2 * a2)) + 1)) t326 t327 w0 _ ?side1 ?side2 A7.out).mono ?_); (case side1 => repeat (first | (with_reducible first | exact HI0.out | apply IsS60.alloc | apply IsS60.drewN | apply IsS60.drew | apply IsS60.set_1) | exact HI0.out)); (case side2 => repeat (first | (with_reducible first | exact HB.out | apply below_alloc | apply pw_below_drewN | apply below_drew1 | refine below_set ?_ (IsS60.ge HI0.out)) | exact HB.out)); rintro e w9 ⟨rfl, hi, hb, hk⟩; refine ⟨_, rfl, ?_⟩; replace HO_7 := Aside0.mk (Kd.R_mono (Kd.R_keep (IsS60.apart (show IsS60 w0 _ g s0_0 x1001_1 from by repeat (first | (with_reducible first | exact HI0.out | apply IsS60.alloc | apply IsS60.drewN | apply IsS60.drew | apply IsS60.set_1) | exact HI0.out)) (U HO_7.out) (by decide)) hk (fun _ h => h.2)) (fun _ h => h.1)); replace HK := Aside0.mk (KeepBut.trans KU hk (.inl rfl)); replace HB := Aside0.mk (hb); replace HI0 := Aside0.mk (hi); (try clear hb); (try clear hk); (try clear hi)) | ((with_reducible refine gate_builtin (b := .append) (xs := #[.tmp 16, .tmp 24]) rfl ?_); at_builtin; refine Kd.R_append (Kd.int .i64) w.heap.size rfl (.tmp 16) (.tmp 24) 23 3 (.int .i64 0) 8 rfl Try.underlying23 info3 rfl (by decide) (by omega) u7 x7_1 (wrap64 (t326 - a2)) [.int .i64 (wrap64 (t326 - a2))] (fun _ => True) (fun _ => False) rfl rfl ?aP (fun _ hk => hk.elim) ?aF ?aO (Below.refl _ _) ?aS ?aL ?_; (case aP => exact rfl); (case aF => exact (fun _ _ => trivial)); (case aO => exact (U HO_7.out)); (case aS => exact (keep_size (w := w) (g := g) (row := none) KU)); (case aL => have := LMc8.out; omega); intro v329 w10 ho hb hg hat; rw [← Ny328.out] at ho; have n0_ := Aside0.mk (IsS60.grown (by repeat (first | (with_reducible first | exact HI0.out | apply IsS60.alloc | apply IsS60.drewN | apply IsS60.drew | apply IsS60.set_1) | exact HI0.out)) hg (IsS60.own_ne HI0.out HO_7.out (by decide))); have n1_ := Aside0.mk (below_weaken (by repeat (first | (with_reducible first | exact HB.out | apply below_alloc | apply pw_below_drewN | apply below_drew1 | refine below_set ?_ (IsS60.ge HI0.out)) | exact HB.out)) HL.out hb); have n2_ := Aside0.mk (KeepBut.trans KU (KeepBut.of_grown hg g) (Kd.R_base2 HO_7.out)); have n3_ := Aside0.mk (ho); clear HI0; try clear HB; clear HK; clear HO_7; have HI0 := n0_; have HB := n1_; have HK := n2_; have HO330 := n3_; clear n0_ n1_ n2_ n3_; clear ho hb hg hat))
        go_roundg k1
        case measure => have := HK1.out; omega
        case rel => exact ⟨(y328), (wrap64 (x8_1 + 1)), (t327), sR, H', ⟨by have := HK1.out; omega⟩, ⟨U HO330.out⟩, ⟨by repeat (first | (with_reducible first | exact HI0.out | apply IsS60.alloc | apply IsS60.drewN | apply IsS60.drew | apply IsS60.set_1) | exact HI0.out)⟩, ⟨by repeat (first | (with_reducible first | exact HK.out | apply KeepBut.set_ | apply keep_drewN | apply keep_drew | apply keep_alloc) | exact HK.out)⟩, ⟨by repeat (first | (with_reducible first | exact HB.out | apply below_alloc | apply pw_below_drewN | apply below_drew1 | refine below_set ?_ (IsS60.ge HI0.out)) | exact HB.out)⟩⟩
      rw [if_neg c6] at H; have c6b0 : decide (x8_1 < (l1.length : Int)) = false := decide_eq_false c6; clear c6; simp only [Option.some.injEq, Prod.mk.injEq] at H; obtain ⟨rfl, rfl⟩ := H
      go_wp2
      go_ret
      exact ⟨_, eR, U HO_7.out, by repeat (first | (with_reducible first | exact HI0.out | apply IsS60.alloc | apply IsS60.drewN | apply IsS60.drew | apply IsS60.set_1) | exact HI0.out), by repeat (first | (with_reducible first | exact HB.out | apply below_alloc | apply pw_below_drewN | apply below_drew1 | refine below_set ?_ (IsS60.ge HI0.out)) | exact HB.out), by repeat (first | (with_reducible first | exact HK.out | apply KeepBut.set_ | apply keep_drewN | apply keep_drew | apply keep_alloc) | exact HK.out)⟩

/-! ### spec_l92Zero: function 22 -/
mutual
def spec_l92Zero.j0 : Nat → List Int → List Int → Bool → List Int → Int → Option (List Int × List Int × Int)
  | 0, _, _, _, _, _ => none
  | k + 1, x4, x5, x25, x1000, x1001 => if x25 = true then ((some (([1, 2, (-1), (-3), 1] : List Int) : List Int)).bind fun y346 => ((spec_l6Rd_pick.f k x1000 x1001 5).bind fun bt349 => (if 0 ≤ bt349.1 then (if bt349.1 < (y346.length : Int) then (spec_l92Zero.l0 k x4 x5 (([] : List Int)) (rd y346 bt349.1) 0 x1000 bt349.2) else (none)) else (none)))) else ((spec_l91Vector.f k x1000 x1001 x4 4).bind fun bt356 => (some (x4, bt356.1, bt356.2)))
def spec_l92Zero.l0 : Nat → List Int → List Int → List Int → Int → Int → List Int → Int → Option (List Int × List Int × Int)
  | 0, _, _, _, _, _, _, _ => none
  | k + 1, x4, x5, x7, x8, x9, x1000, x1001 => if x9 < (x5.length : Int) then (if 0 ≤ x9 then (if x7.length < 17592186044416 then (spec_l92Zero.l0 k x4 x5 (x7 ++ [wrap64 (x8 * (rd x5 x9))]) x8 (wrap64 (x9 + 1)) x1000 x1001) else (none)) else (none)) else (some (x4, x7, x1001))
end
def spec_l92Zero.f (k : Nat) (s0_0 : List Int) (s0_1 : Int) : Option (List Int × List Int × Int) := (spec_l6Rd_pick.f k s0_0 s0_1 3).bind fun bt331 => ((spec_l92Form.f k s0_0 bt331.2 (wrap64 (2 + bt331.1))).bind fun bt333 => ((spec_ZeroFind.f k bt333.1).bind fun bt337 => (if bt337.2 = true then ((spec_l6Rd_pick.f k s0_0 bt333.2 4).bind fun bt341 => (spec_l92Zero.j0 k bt333.1 bt337.1 (decide (bt341.1 > 0)) s0_0 bt341.2)) else (spec_l92Zero.j0 k bt333.1 bt337.1 false s0_0 bt333.2))))
theorem spec_l92Zero.mono_l : ∀ k, (∀ y0 y1 y2 y3 y4, LeO (spec_l92Zero.j0 k y0 y1 y2 y3 y4) (spec_l92Zero.j0 (k + 1) y0 y1 y2 y3 y4)) ∧ (∀ y0 y1 y2 y3 y4 y5 y6, LeO (spec_l92Zero.l0 k y0 y1 y2 y3 y4 y5 y6) (spec_l92Zero.l0 (k + 1) y0 y1 y2 y3 y4 y5 y6))
  | 0 => ⟨fun _ _ _ _ _ r h => by simp [spec_l92Zero.j0] at h, fun _ _ _ _ _ _ _ r h => by simp [spec_l92Zero.l0] at h⟩
  | k + 1 => by
    obtain ⟨ih0, ih1⟩ := spec_l92Zero.mono_l k
    refine ⟨?_, ?_⟩ <;> intros <;> (first | unfold spec_l92Zero.j0 | unfold spec_l92Zero.l0) <;> (repeat' first
      | (with_reducible exact ih0 _ _ _ _ _)
      | (with_reducible exact ih1 _ _ _ _ _ _ _)
      | (with_reducible exact spec_ZeroFind.mono _ _)
      | (with_reducible exact spec_l6Rd_pick.mono _ _ _ _)
      | (with_reducible exact spec_l91Vector.mono _ _ _ _ _)
      | (with_reducible exact spec_l92Form.mono _ _ _ _)
      | (with_reducible exact LeO.refl _)
      | (with_reducible exact LeO.none _)
      | (with_reducible refine LeO.ite ?_ ?_)
      | (with_reducible refine LeO.bind ?_ (fun _ => ?_))
      | exact ih0 _ _ _ _ _
      | exact ih1 _ _ _ _ _ _ _
      | exact spec_ZeroFind.mono _ _
      | exact spec_l6Rd_pick.mono _ _ _ _
      | exact spec_l91Vector.mono _ _ _ _ _
      | exact spec_l92Form.mono _ _ _ _
      | exact LeO.none _
      | refine LeO.ite ?_ ?_
      | refine LeO.bind ?_ (fun _ => ?_))
theorem spec_l92Zero.mono : ∀ a0 a1 k, LeO (spec_l92Zero.f k a0 a1) (spec_l92Zero.f (k + 1) a0 a1) := by
  intro a0 a1 k
  obtain ⟨ih0, ih1⟩ := spec_l92Zero.mono_l k
  unfold spec_l92Zero.f
  repeat' first
      | (with_reducible exact ih0 _ _ _ _ _)
      | (with_reducible exact ih1 _ _ _ _ _ _ _)
      | (with_reducible exact spec_ZeroFind.mono _ _)
      | (with_reducible exact spec_l6Rd_pick.mono _ _ _ _)
      | (with_reducible exact spec_l91Vector.mono _ _ _ _ _)
      | (with_reducible exact spec_l92Form.mono _ _ _ _)
      | (with_reducible exact LeO.refl _)
      | (with_reducible exact LeO.none _)
      | (with_reducible refine LeO.ite ?_ ?_)
      | (with_reducible refine LeO.bind ?_ (fun _ => ?_))
      | exact ih0 _ _ _ _ _
      | exact ih1 _ _ _ _ _ _ _
      | exact spec_ZeroFind.mono _ _
      | exact spec_l6Rd_pick.mono _ _ _ _
      | exact spec_l91Vector.mono _ _ _ _ _
      | exact spec_l92Form.mono _ _ _ _
      | exact LeO.none _
      | refine LeO.ite ?_ ?_
      | refine LeO.bind ?_ (fun _ => ?_)
set_option maxHeartbeats 8000000 in
set_option maxRecDepth 100000 in
theorem spec_l92Zero.calls (k : Nat) (g : Nat) (s0_0 : List Int) (s0_1 : Int) (r1 : List Int) (r2 : List Int) (r3 : Int) (w0 w : World) (hI : IsS60 w0 w g s0_0 s0_1) (hB : Below w0.heap.size w0 w) (h : spec_l92Zero.f k s0_0 s0_1 = some (r1, r2, r3)) :
    Calls Try.prog 22 #[.pointer (some ⟨g, 0, none⟩)] w fun e w' => ∃ v0_ v1_ : Value, e = .returned (.tuple #[v0_, v1_]) ∧ Kd.R (Kd.int .i64) 3 w' w.heap.size (fun k_ => some k_ ≠ (v1_ : Value).ownBlock) v0_ r1 ∧ Kd.R (Kd.int .i64) 3 w' w.heap.size (fun k_ => some k_ ≠ (v0_ : Value).ownBlock) v1_ r2 ∧ IsS60 w0 w' g s0_0 r3 ∧ Below w0.heap.size w0 w' ∧ KeepBut w w' g none := by
  have HI0 := Aside0.mk hI; have HK := Aside0.mk (KeepBut.refl w g none); have HL := Aside0.mk hB.size; clear hI; have HW0 := Aside0.mk hB.size; have HB := Aside0.mk hB; clear hB; unfold spec_l92Zero.f at h; have H := h; clear h; obtain ⟨⟨t331, t332⟩, A2, H⟩ := bnd H
  replace H : ((spec_l92Form.f k s0_0 t332 (wrap64 (2 + t331))).bind fun bt333 => ((spec_ZeroFind.f k bt333.1).bind fun bt337 => (if bt337.2 = true then ((spec_l6Rd_pick.f k s0_0 bt333.2 4).bind fun bt341 => (spec_l92Zero.j0 k bt333.1 bt337.1 (decide (bt341.1 > 0)) s0_0 bt341.2)) else (spec_l92Zero.j0 k bt333.1 bt337.1 false s0_0 bt333.2)))) = some (r1, r2, r3) := H
  obtain ⟨⟨t333, t336⟩, A3, H⟩ := bnd H
  replace H : ((spec_ZeroFind.f k t333).bind fun bt337 => (if bt337.2 = true then ((spec_l6Rd_pick.f k s0_0 t336 4).bind fun bt341 => (spec_l92Zero.j0 k t333 bt337.1 (decide (bt341.1 > 0)) s0_0 bt341.2)) else (spec_l92Zero.j0 k t333 bt337.1 false s0_0 t336))) = some (r1, r2, r3) := H
  obtain ⟨⟨t337, t338⟩, A4, H⟩ := bnd H; replace H : (if t338 = true then ((spec_l6Rd_pick.f k s0_0 t336 4).bind fun bt341 => (spec_l92Zero.j0 k t333 t337 (decide (bt341.1 > 0)) s0_0 bt341.2)) else (spec_l92Zero.j0 k t333 t337 false s0_0 t336)) = some (r1, r2, r3) := H; have HC5 := Aside0.mk H; clear H; go_enter Try.func22, Try.ntmps22
  go_upto_region 3 with (first | ((with_reducible refine gate_callee (f := 36) rfl ?_); refine goesK (some 12) Try.func36 #[.pointer (some ⟨g, 0, none⟩), .int .i64 3] ?_; (with_reducible refine (spec_l6Rd_pick.calls k g s0_0 s0_1 3 t331 t332 w0 _ ?side1 ?side2 A2.out).mono ?_); (case side1 => repeat (first | (with_reducible first | exact HI0.out | apply IsS60.alloc | apply IsS60.drewN | apply IsS60.drew | apply IsS60.set_1) | exact HI0.out)); (case side2 => repeat (first | (with_reducible first | exact HB.out | apply below_alloc | apply pw_below_drewN | apply below_drew1 | refine below_set ?_ (IsS60.ge HI0.out)) | exact HB.out)); rintro e w6 ⟨rfl, hi, hb, hk⟩; refine ⟨_, rfl, ?_⟩; replace HK := Aside0.mk (KeepBut.trans KU hk (.inl rfl)); replace HB := Aside0.mk (hb); replace HI0 := Aside0.mk (hi); (try clear hb); (try clear hk); (try clear hi)) | ((with_reducible refine gate_callee (f := 35) rfl ?_); refine goesK (some 14) Try.func35 #[.pointer (some ⟨g, 0, none⟩), .int .i64 (wrap64 (2 + t331))] ?_; (with_reducible refine (spec_l92Form.calls k g s0_0 t332 (wrap64 (2 + t331)) t333 t336 w0 _ ?side1 ?side2 A3.out).mono ?_); (case side1 => repeat (first | (with_reducible first | exact HI0.out | apply IsS60.alloc | apply IsS60.drewN | apply IsS60.drew | apply IsS60.set_1) | exact HI0.out)); (case side2 => repeat (first | (with_reducible first | exact HB.out | apply below_alloc | apply pw_below_drewN | apply below_drew1 | refine below_set ?_ (IsS60.ge HI0.out)) | exact HB.out)); rintro e w7 ⟨v334, rfl, ho0, hi, hb, hk⟩; refine ⟨_, rfl, ?_⟩; have HO335 := Aside0.mk (Kd.R_lower ho0 (keep_size (w := w) (g := g) (row := none) KU)); replace HK := Aside0.mk (KeepBut.trans KU hk (.inl rfl)); replace HB := Aside0.mk (hb); replace HI0 := Aside0.mk (hi); (try clear hb); (try clear hk); (try clear hi); (try clear ho0); obtain ⟨Ao8, co8, eo8⟩ := Kd.R_slice HO335.out; subst eo8) | ((with_reducible refine gate_callee (f := 18) rfl ?_); refine goesK (some 17) Try.func18 #[.slice Ao8 t333.length co8] ?_; (with_reducible refine (spec_ZeroFind.calls k _ _ t333 t337 t338 _ ?side1 ?side2 A4.out).mono ?_); (case side1 => exact U ((Kd.R_reads' HO335.out).2.2)); (case side2 => exact (Kd.R_reads' HO335.out).2.1); rintro e w9 ⟨v339, rfl, ho0, hb⟩; refine ⟨_, rfl, ?_⟩; have HO340 := Aside0.mk (Kd.R_lower (Kd.R_new' ho0 (Kd.R_lt (U HO335.out))) (keep_size (w := w) (g := g) (row := none) KU)); replace HO335 := Aside0.mk (Kd.R_elder' (U HO335.out) (Kd.R_base ho0) hb); replace HK := Aside0.mk (KeepBut.trans KU (KeepBut.of_below hb g none) (.inl rfl)); replace HB := Aside0.mk (below_step (by repeat (first | (with_reducible first | exact HB.out | apply below_alloc | apply pw_below_drewN | apply below_drew1 | refine below_set ?_ (IsS60.ge HI0.out)) | exact HB.out)) hb); replace HI0 := Aside0.mk (IsS60.below (by repeat (first | (with_reducible first | exact HI0.out | apply IsS60.alloc | apply IsS60.drewN | apply IsS60.drew | apply IsS60.set_1) | exact HI0.out)) hb); (try clear hb); (try clear ho0)))
  (try simp only [Act.put, List.setIfInBounds_toArray, List.set_cons_zero, List.set_cons_succ])
  go_cut [25] (fun v25 wc => ∃ (kq : Nat) (x25_4 : Bool) (x1001_4 : Int), v25 = .bool x25_4 ∧ Aside0 (spec_l92Zero.j0 kq t333 t337 x25_4 s0_0 x1001_4 = some (r1, r2, r3)) ∧ Aside0 (kq ≤ k) ∧ Aside0 (Kd.R (Kd.int .i64) 3 wc w.heap.size (fun k_ => some k_ ≠ (v339 : Value).ownBlock) (.slice Ao8 t333.length co8) t333) ∧ Aside0 (Kd.R (Kd.int .i64) 3 wc w.heap.size (fun k_ => some k_ ≠ ((.slice Ao8 t333.length co8) : Value).ownBlock) v339 t337) ∧ Aside0 (IsS60 w0 wc g s0_0 x1001_4) ∧ Aside0 (KeepBut w wc g none) ∧ Aside0 (Below w0.heap.size w0 wc))
  case first =>
    have H := HC5.out; clear HC5
    by_cases c10 : t338 = true
    · subst c10
      replace H := ifT H; obtain ⟨⟨t341, t342⟩, A11, H⟩ := bnd H; replace H : (spec_l92Zero.j0 k t333 t337 (decide (t341 > 0)) s0_0 t342) = some (r1, r2, r3) := H; have H' := Aside0.mk H; clear H
      go_wp2_with (first | (go_at_call 36; (with_reducible refine (spec_l6Rd_pick.calls k g s0_0 t336 4 t341 t342 w0 _ ?side1 ?side2 A11.out).mono ?_); (case side1 => repeat (first | (with_reducible first | exact HI0.out | apply IsS60.alloc | apply IsS60.drewN | apply IsS60.drew | apply IsS60.set_1) | exact HI0.out)); (case side2 => repeat (first | (with_reducible first | exact HB.out | apply below_alloc | apply pw_below_drewN | apply below_drew1 | refine below_set ?_ (IsS60.ge HI0.out)) | exact HB.out)); rintro e w12 ⟨rfl, hi, hb, hk⟩; replace HO335 := Aside0.mk (Kd.R_mono (Kd.R_keep (IsS60.apart (show IsS60 w0 _ g s0_0 t336 from by repeat (first | (with_reducible first | exact HI0.out | apply IsS60.alloc | apply IsS60.drewN | apply IsS60.drew | apply IsS60.set_1) | exact HI0.out)) (U HO335.out) (by decide)) hk (fun _ h => h.2)) (fun _ h => h.1)); replace HO340 := Aside0.mk (Kd.R_mono (Kd.R_keep (IsS60.apart (show IsS60 w0 _ g s0_0 t336 from by repeat (first | (with_reducible first | exact HI0.out | apply IsS60.alloc | apply IsS60.drewN | apply IsS60.drew | apply IsS60.set_1) | exact HI0.out)) (U HO340.out) (by decide)) hk (fun _ h => h.2)) (fun _ h => h.1)); replace HK := Aside0.mk (KeepBut.trans KU hk (.inl rfl)); replace HB := Aside0.mk (hb); replace HI0 := Aside0.mk (hi); (try clear hb); (try clear hk); (try clear hi)))
      go_meet
      case rel => exact ⟨_, (decide (t341 > 0)), (t342), sR, H', ⟨oR⟩, ⟨Kd.RM HO335.out (fun _ hk => hk.2)⟩, ⟨Kd.RM HO340.out (fun _ hk => hk.2)⟩, ⟨by repeat (first | (with_reducible first | exact HI0.out | apply IsS60.alloc | apply IsS60.drewN | apply IsS60.drew | apply IsS60.set_1) | exact HI0.out)⟩, ⟨by repeat (first | (with_reducible first | exact HK.out | apply KeepBut.set_ | apply keep_drewN | apply keep_drew | apply keep_alloc) | exact HK.out)⟩, ⟨by repeat (first | (with_reducible first | exact HB.out | apply below_alloc | apply pw_below_drewN | apply below_drew1 | refine below_set ?_ (IsS60.ge HI0.out)) | exact HB.out)⟩⟩
    replace c10 := Bool.eq_false_iff.mpr c10; subst c10; replace H := ifF H; have H' := Aside0.mk H; clear H
    go_wp2
    go_meet
    case rel => exact ⟨_, (false), (t336), sR, H', ⟨oR⟩, ⟨Kd.RM HO335.out (fun _ hk => hk.2)⟩, ⟨Kd.RM HO340.out (fun _ hk => hk.2)⟩, ⟨by repeat (first | (with_reducible first | exact HI0.out | apply IsS60.alloc | apply IsS60.drewN | apply IsS60.drew | apply IsS60.set_1) | exact HI0.out)⟩, ⟨by repeat (first | (with_reducible first | exact HK.out | apply KeepBut.set_ | apply keep_drewN | apply keep_drew | apply keep_alloc) | exact HK.out)⟩, ⟨by repeat (first | (with_reducible first | exact HB.out | apply below_alloc | apply pw_below_drewN | apply below_drew1 | refine below_set ?_ (IsS60.ge HI0.out)) | exact HB.out)⟩⟩
  case rest =>
    clear HC5; obtain ⟨kq, x25_4, x1001_4, rfl, HA, HJ4, HO_4, HO_5, HI0, HK, HB⟩ := hcut; cases kq with
    | zero => exact absurd HA.out (by simp [spec_l92Zero.j0])
    | succ kj4 =>
      have H := HA.out; clear HA; simp only [spec_l92Zero.j0] at H
      by_cases c13 : x25_4 = true
      · subst c13
        replace H := ifT H; obtain ⟨y343, hy343⟩ : ∃ y_ : List Int, y_ = (([] : List Int)) := ⟨_, rfl⟩
        replace H : ((some (([1, 2, (-1), (-3), 1] : List Int) : List Int)).bind fun y346 => ((spec_l6Rd_pick.f kj4 s0_0 x1001_4 5).bind fun bt349 => (if 0 ≤ bt349.1 then (if bt349.1 < (y346.length : Int) then (spec_l92Zero.l0 kj4 t333 t337 y343 (rd y346 bt349.1) 0 s0_0 bt349.2) else (none)) else (none)))) = some (r1, r2, r3) := rH hy343 H
        have Ny343 := Aside0.mk hy343; clear hy343; obtain ⟨y346, hy346⟩ : ∃ y_ : List Int, y_ = (([1, 2, (-1), (-3), 1] : List Int)) := ⟨_, rfl⟩
        replace H : ((spec_l6Rd_pick.f kj4 s0_0 x1001_4 5).bind fun bt349 => (if 0 ≤ bt349.1 then (if bt349.1 < (y346.length : Int) then (spec_l92Zero.l0 kj4 t333 t337 y343 (rd y346 bt349.1) 0 s0_0 bt349.2) else (none)) else (none))) = some (r1, r2, r3) := rH hy346 H
        have Ny346 := Aside0.mk hy346; clear hy346; obtain ⟨⟨t349, t350⟩, A14, H⟩ := bnd H; replace H : (if 0 ≤ t349 then (if t349 < (y346.length : Int) then (spec_l92Zero.l0 kj4 t333 t337 y343 (rd y346 t349) 0 s0_0 t350) else (none)) else (none)) = some (r1, r2, r3) := H; obtain ⟨c15, H⟩ := ifN H; have c15b0 : decide (0 ≤ t349) = true := decide_eq_true c15; clear c15; obtain ⟨c16, H⟩ := ifN H; have c16b0 : decide (t349 < (y346.length : Int)) = true := decide_eq_true c16; clear c16; have H' := Aside0.mk H; clear H
        go_wp2_with (first | ((with_reducible refine gate_dst (N := 26) rfl ?_); refine Kd.R_lit (Kd.int .i64) _ 3 ?hg (N := 26) ?hd (xs := ([] : List Int)) (inner := []) (ok := fun _ => True) (okp := fun _ => True) ?hr ?hp (fun _ hk => hk) trivial (Below.refl _ _) (Nat.le_refl _) (by simp) ?_; (case hd => rfl); (case hg => rfl); (case hr => first | (go_simp; done) | (go_simp; rfl)); (case hp => exact (Reps.none _ _)); intro v344 w17 ho18 hb hg_ hnew_; clear hg_ hnew_; (first | rw [← Ny343.out] at ho18 | (simp only [Int.reduceToNat] at ho18; rw [← Ny343.out] at ho18)); have HO345 := Aside0.mk (Kd.R_lower (Kd.R_new' (Kd.R_new' ho18 (Kd.R_lt (U HO_4.out))) (Kd.R_lt (U HO_5.out))) (keep_size (w := w) (g := g) (row := none) KU)); replace HO_4 := Aside0.mk (Kd.R_elder' (U HO_4.out) (Kd.R_base ho18) hb); replace HO_5 := Aside0.mk (Kd.R_elder' (U HO_5.out) (Kd.R_base ho18) hb); replace HK := Aside0.mk (KeepBut.trans KU (KeepBut.of_below hb g none) (.inl rfl)); replace HB := Aside0.mk (below_step (by repeat (first | (with_reducible first | exact HB.out | apply below_alloc | apply pw_below_drewN | apply below_drew1 | refine below_set ?_ (IsS60.ge HI0.out)) | exact HB.out)) hb); replace HI0 := Aside0.mk (IsS60.below (by repeat (first | (with_reducible first | exact HI0.out | apply IsS60.alloc | apply IsS60.drewN | apply IsS60.drew | apply IsS60.set_1) | exact HI0.out)) hb); clear hb ho18) | ((with_reducible refine gate_dst (N := 27) rfl ?_); refine Kd.R_lit (Kd.int .i64) _ 3 ?hg (N := 27) ?hd (xs := ([1, 2, (-1), (-3), 1] : List Int)) (inner := [.int .i64 1, .int .i64 2, .int .i64 (-1), .int .i64 (-3), .int .i64 1]) (ok := fun _ => True) (okp := fun _ => True) ?hr ?hp (fun _ hk => hk) trivial (Below.refl _ _) (Nat.le_refl _) (by simp) ?_; (case hd => rfl); (case hg => rfl); (case hr => first | (go_simp; done) | (go_simp; rfl)); (case hp => exact (Reps.one (show Kd.M (Kd.int .i64) _ _ _ 1 [.int .i64 1] from rfl) (Reps.one (show Kd.M (Kd.int .i64) _ _ _ 2 [.int .i64 2] from rfl) (Reps.one (show Kd.M (Kd.int .i64) _ _ _ (-1) [.int .i64 (-1)] from rfl) (Reps.one (show Kd.M (Kd.int .i64) _ _ _ (-3) [.int .i64 (-3)] from rfl) (Reps.one (show Kd.M (Kd.int .i64) _ _ _ 1 [.int .i64 1] from rfl) (Reps.none _ _))))))); intro v347 w19 ho20 hb hg_ hnew_; clear hg_ hnew_; (first | rw [← Ny346.out] at ho20 | (simp only [Int.reduceToNat] at ho20; rw [← Ny346.out] at ho20)); have HO348 := Aside0.mk (Kd.R_lower (Kd.R_new' (Kd.R_new' (Kd.R_new' ho20 (Kd.R_lt (U HO_4.out))) (Kd.R_lt (U HO_5.out))) (Kd.R_lt (U HO345.out))) (keep_size (w := w) (g := g) (row := none) KU)); replace HO_4 := Aside0.mk (Kd.R_elder' (U HO_4.out) (Kd.R_base ho20) hb); replace HO_5 := Aside0.mk (Kd.R_elder' (U HO_5.out) (Kd.R_base ho20) hb); replace HO345 := Aside0.mk (Kd.R_elder' (U HO345.out) (Kd.R_base ho20) hb); replace HK := Aside0.mk (KeepBut.trans KU (KeepBut.of_below hb g none) (.inl rfl)); replace HB := Aside0.mk (below_step (by repeat (first | (with_reducible first | exact HB.out | apply below_alloc | apply pw_below_drewN | apply below_drew1 | refine below_set ?_ (IsS60.ge HI0.out)) | exact HB.out)) hb); replace HI0 := Aside0.mk (IsS60.below (by repeat (first | (with_reducible first | exact HI0.out | apply IsS60.alloc | apply IsS60.drewN | apply IsS60.drew | apply IsS60.set_1) | exact HI0.out)) hb); clear hb ho20) | ((with_reducible refine gate_callee (f := 36) rfl ?_); refine goesK (some 29) Try.func36 #[.pointer (some ⟨g, 0, none⟩), .int .i64 5] ?_; (with_reducible refine (spec_l6Rd_pick.calls kj4 g s0_0 x1001_4 5 t349 t350 w0 _ ?side1 ?side2 A14.out).mono ?_); (case side1 => repeat (first | (with_reducible first | exact HI0.out | apply IsS60.alloc | apply IsS60.drewN | apply IsS60.drew | apply IsS60.set_1) | exact HI0.out)); (case side2 => repeat (first | (with_reducible first | exact HB.out | apply below_alloc | apply pw_below_drewN | apply below_drew1 | refine below_set ?_ (IsS60.ge HI0.out)) | exact HB.out)); rintro e w21 ⟨rfl, hi, hb, hk⟩; refine ⟨_, rfl, ?_⟩; replace HO_4 := Aside0.mk (Kd.R_mono (Kd.R_keep (IsS60.apart (show IsS60 w0 _ g s0_0 x1001_4 from by repeat (first | (with_reducible first | exact HI0.out | apply IsS60.alloc | apply IsS60.drewN | apply IsS60.drew | apply IsS60.set_1) | exact HI0.out)) (U HO_4.out) (by decide)) hk (fun _ h => h.2)) (fun _ h => h.1)); replace HO_5 := Aside0.mk (Kd.R_mono (Kd.R_keep (IsS60.apart (show IsS60 w0 _ g s0_0 x1001_4 from by repeat (first | (with_reducible first | exact HI0.out | apply IsS60.alloc | apply IsS60.drewN | apply IsS60.drew | apply IsS60.set_1) | exact HI0.out)) (U HO_5.out) (by decide)) hk (fun _ h => h.2)) (fun _ h => h.1)); replace HO345 := Aside0.mk (Kd.R_mono (Kd.R_keep (IsS60.apart (show IsS60 w0 _ g s0_0 x1001_4 from by repeat (first | (with_reducible first | exact HI0.out | apply IsS60.alloc | apply IsS60.drewN | apply IsS60.drew | apply IsS60.set_1) | exact HI0.out)) (U HO345.out) (by decide)) hk (fun _ h => h.2)) (fun _ h => h.1)); replace HO348 := Aside0.mk (Kd.R_mono (Kd.R_keep (IsS60.apart (show IsS60 w0 _ g s0_0 x1001_4 from by repeat (first | (with_reducible first | exact HI0.out | apply IsS60.alloc | apply IsS60.drewN | apply IsS60.drew | apply IsS60.set_1) | exact HI0.out)) (U HO348.out) (by decide)) hk (fun _ h => h.2)) (fun _ h => h.1)); replace HK := Aside0.mk (KeepBut.trans KU hk (.inl rfl)); replace HB := Aside0.mk (hb); replace HI0 := Aside0.mk (hi); (try clear hb); (try clear hk); (try clear hi); obtain ⟨Ao22, co22, eo22⟩ := Kd.R_slice HO348.out; subst eo22; have p351 : 0 ≤ (t349 : Int) := oD; have q351 : t349 < (y346.length : Int) := oD; obtain ⟨ad351, e351, hx351_0⟩ := Kd.at_int (Kd.R_reads' HO348.out).2.2 t349 p351 q351; cases e351; replace p351 := eq_true p351; replace q351 := eq_true q351))
        go_loopg [7, 9] kj4 (fun kq v7 v9 w' => ∃ (x7_2 : List Int) (x9_2 : Int), v9 = .int .i64 x9_2 ∧ Aside0 (spec_l92Zero.l0 kq t333 t337 x7_2 (rd y346 t349) x9_2 s0_0 t350 = some (r1, r2, r3)) ∧ Aside0 (kq ≤ kj4) ∧ Aside0 (Kd.R (Kd.int .i64) 3 w' w.heap.size (fun k_ => some k_ ≠ (v339 : Value).ownBlock ∧ some k_ ≠ (v7 : Value).ownBlock) (.slice Ao8 t333.length co8) t333) ∧ Aside0 (Kd.R (Kd.int .i64) 3 w' w.heap.size (fun k_ => some k_ ≠ ((.slice Ao8 t333.length co8) : Value).ownBlock ∧ some k_ ≠ (v7 : Value).ownBlock) v339 t337) ∧ Aside0 (Kd.R (Kd.int .i64) 3 w' w.heap.size (fun k_ => some k_ ≠ ((.slice Ao8 t333.length co8) : Value).ownBlock ∧ some k_ ≠ (v339 : Value).ownBlock) v7 x7_2) ∧ Aside0 (IsS60 w0 w' g s0_0 t350) ∧ Aside0 (KeepBut w w' g none) ∧ Aside0 (Below w0.heap.size w0 w'))
        case atStart => exact ⟨(y343), (0), sR, H', ⟨Nat.le_refl _⟩, ⟨Kd.RM HO_4.out (fun _ hk => ⟨hk.1.1, hk.1.2⟩)⟩, ⟨Kd.RM HO_5.out (fun _ hk => ⟨hk.1.1, hk.1.2⟩)⟩, ⟨Kd.RM HO345.out (fun _ hk => ⟨hk.1.1.2, hk.1.2⟩)⟩, ⟨by repeat (first | (with_reducible first | exact HI0.out | apply IsS60.alloc | apply IsS60.drewN | apply IsS60.drew | apply IsS60.set_1) | exact HI0.out)⟩, ⟨by repeat (first | (with_reducible first | exact HK.out | apply KeepBut.set_ | apply keep_drewN | apply keep_drew | apply keep_alloc) | exact HK.out)⟩, ⟨by repeat (first | (with_reducible first | exact HB.out | apply below_alloc | apply pw_below_drewN | apply below_drew1 | refine below_set ?_ (IsS60.ge HI0.out)) | exact HB.out)⟩⟩
        case round =>
          clear H'; (try clear c13); (try clear c15); (try clear c15b0); (try clear c16); (try clear c16b0); (try clear hx351_0); (try clear p351); (try clear q351); obtain ⟨x7_2, x9_2, rfl, HA, HK2, HO_4, HO_5, HO_7, HI0, HK, HB⟩ := hrel; cases gk with
          | zero => exact absurd HA.out (by simp [spec_l92Zero.l0])
          | succ k2 =>
            have H := HA.out; clear HA; simp only [spec_l92Zero.l0] at H
            by_cases c23 : x9_2 < (t337.length : Int)
            · rw [if_pos c23] at H
              have c23b0 : decide (x9_2 < (t337.length : Int)) = true := decide_eq_true c23; clear c23; obtain ⟨c24, H⟩ := ifN H; have c24b0 : decide (0 ≤ x9_2) = true := decide_eq_true c24; clear c24; obtain ⟨c25, H⟩ := ifN H; have LMc25 := Aside0.mk c25; clear c25; obtain ⟨y353, hy353⟩ : ∃ y_ : List Int, y_ = (x7_2 ++ [wrap64 ((rd y346 t349) * (rd t337 x9_2))]) := ⟨_, rfl⟩; replace H : (spec_l92Zero.l0 k2 t333 t337 y353 (rd y346 t349) (wrap64 (x9_2 + 1)) s0_0 t350) = some (r1, r2, r3) := rH hy353 H; have Ny353 := Aside0.mk hy353; clear hy353; have H' := Aside0.mk H; clear H; obtain ⟨Ao26, co26, eo26⟩ := Kd.R_slice HO_5.out; subst eo26; have p352 : 0 ≤ (x9_2 : Int) := oD; have q352 : x9_2 < (t337.length : Int) := oD; obtain ⟨ad352, e352, hx352_0⟩ := Kd.at_int (Kd.R_reads' HO_5.out).2.2 x9_2 p352 q352; cases e352; replace p352 := eq_true p352; replace q352 := eq_true q352
              go_wp2_with (first | ((with_reducible refine gate_builtin (b := .append) (xs := #[.tmp 38, .tmp 45]) rfl ?_); at_builtin; refine Kd.R_append (Kd.int .i64) w.heap.size rfl (.tmp 38) (.tmp 45) 23 3 (.int .i64 0) 8 rfl Try.underlying23 info3 rfl (by decide) (by omega) u7 x7_2 (wrap64 ((rd y346 t349) * (rd t337 x9_2))) [.int .i64 (wrap64 ((rd y346 t349) * (rd t337 x9_2)))] (fun k_ => some k_ ≠ (.slice Ao8 t333.length co8 : Value).ownBlock ∧ some k_ ≠ (.slice (some ad352) t337.length co26 : Value).ownBlock) (fun _ => False) rfl rfl ?aP (fun _ hk => hk.elim) ?aF ?aO (Below.refl _ _) ?aS ?aL ?_; (case aP => exact rfl); (case aF => exact (fun k_ hk => ⟨Kd.fresh' (Kd.R_lt (U HO_4.out)) k_ hk, Kd.fresh' (Kd.R_lt (U HO_5.out)) k_ hk⟩)); (case aO => exact (U HO_7.out)); (case aS => exact (keep_size (w := w) (g := g) (row := none) KU)); (case aL => have := LMc25.out; omega); intro v354 w27 ho hb hg hat; rw [← Ny353.out] at ho; have n0_ := Aside0.mk (Kd.R_after (ok := (fun k_ => some k_ ≠ (.slice (some ad352) t337.length co26 : Value).ownBlock)) (U HO_4.out) hg hat); have n1_ := Aside0.mk (Kd.R_after (ok := (fun k_ => some k_ ≠ (.slice Ao8 t333.length co8 : Value).ownBlock)) (U HO_5.out) hg hat); have n2_ := Aside0.mk (IsS60.grown (by repeat (first | (with_reducible first | exact HI0.out | apply IsS60.alloc | apply IsS60.drewN | apply IsS60.drew | apply IsS60.set_1) | exact HI0.out)) hg (IsS60.own_ne HI0.out HO_7.out (by decide))); have n3_ := Aside0.mk (below_weaken (by repeat (first | (with_reducible first | exact HB.out | apply below_alloc | apply pw_below_drewN | apply below_drew1 | refine below_set ?_ (IsS60.ge HI0.out)) | exact HB.out)) HL.out hb); have n4_ := Aside0.mk (KeepBut.trans KU (KeepBut.of_grown hg g) (Kd.R_base2 HO_7.out)); have n5_ := Aside0.mk (ho); clear HO_4; clear HO_5; clear HI0; try clear HB; clear HK; clear HO_7; have HO_4 := n0_; have HO_5 := n1_; have HI0 := n2_; have HB := n3_; have HK := n4_; have HO355 := n5_; clear n0_ n1_ n2_ n3_ n4_ n5_; clear ho hb hg hat))
              go_roundg k2
              case measure => have := HJ4.out; have := HK2.out; omega
              case rel => exact ⟨(y353), (wrap64 (x9_2 + 1)), sR, H', ⟨by have := HJ4.out; have := HK2.out; omega⟩, ⟨U HO_4.out⟩, ⟨U HO_5.out⟩, ⟨U HO355.out⟩, ⟨by repeat (first | (with_reducible first | exact HI0.out | apply IsS60.alloc | apply IsS60.drewN | apply IsS60.drew | apply IsS60.set_1) | exact HI0.out)⟩, ⟨by repeat (first | (with_reducible first | exact HK.out | apply KeepBut.set_ | apply keep_drewN | apply keep_drew | apply keep_alloc) | exact HK.out)⟩, ⟨by repeat (first | (with_reducible first | exact HB.out | apply below_alloc | apply pw_below_drewN | apply below_drew1 | refine below_set ?_ (IsS60.ge HI0.out)) | exact HB.out)⟩⟩
            rw [if_neg c23] at H; have c23b0 : decide (x9_2 < (t337.length : Int)) = false := decide_eq_false c23; clear c23; simp only [Option.some.injEq, Prod.mk.injEq] at H; obtain ⟨rfl, rfl, rfl⟩ := H; obtain ⟨Ao28, co28, eo28⟩ := Kd.R_slice HO_5.out; subst eo28
            go_wp2
            go_ret2
            exact ⟨_, _, by first | rfl | (simp [errW_none, errW_some] <;> rfl) | (simp [*, errW_none, errW_some] <;> rfl), Kd.RM HO_4.out (fun _ hk => hk.2), Kd.RM HO_7.out (fun _ hk => hk.1), by repeat (first | (with_reducible first | exact HI0.out | apply IsS60.alloc | apply IsS60.drewN | apply IsS60.drew | apply IsS60.set_1) | exact HI0.out), by repeat (first | (with_reducible first | exact HB.out | apply below_alloc | apply pw_below_drewN | apply below_drew1 | refine below_set ?_ (IsS60.ge HI0.out)) | exact HB.out), by repeat (first | (with_reducible first | exact HK.out | apply KeepBut.set_ | apply keep_drewN | apply keep_drew | apply keep_alloc) | exact HK.out)⟩
      replace c13 := Bool.eq_false_iff.mpr c13; subst c13; replace H := ifF H; obtain ⟨⟨t356, t359⟩, A29, H⟩ := bnd H; replace H : (some (t333, t356, t359)) = some (r1, r2, r3) := H; simp only [Option.some.injEq, Prod.mk.injEq] at H; obtain ⟨rfl, rfl, rfl⟩ := H
      go_wp2_with (first | ((with_reducible refine gate_callee (f := 53) rfl ?_); refine goesK (some 52) Try.func53 #[.pointer (some ⟨g, 0, none⟩), .slice Ao8 t333.length co8, .int .i64 4] ?_; (with_reducible refine (spec_l91Vector.calls kj4 g s0_0 x1001_4 _ _ t333 4 t356 t359 w0 _ ?side1 ?side2 ?side3 ?side4 ?side5 A29.out).mono ?_); (case side1 => repeat (first | (with_reducible first | exact HI0.out | apply IsS60.alloc | apply IsS60.drewN | apply IsS60.drew | apply IsS60.set_1) | exact HI0.out)); (case side2 => repeat (first | (with_reducible first | exact HB.out | apply below_alloc | apply pw_below_drewN | apply below_drew1 | refine below_set ?_ (IsS60.ge HI0.out)) | exact HB.out)); (case side3 => exact U ((Kd.R_reads' HO_4.out).2.2)); (case side4 => exact (Kd.R_reads' HO_4.out).2.1); (case side5 => exact far_slice (IsS60.own_ne HI0.out HO_4.out (by decide))); rintro e w30 ⟨v357, rfl, ho0, hi, hb, hk⟩; refine ⟨_, rfl, ?_⟩; have HO358 := Aside0.mk (Kd.R_lower (Kd.R_new' (Kd.R_new' ho0 (Kd.R_lt (U HO_4.out))) (Kd.R_lt (U HO_5.out))) (keep_size (w := w) (g := g) (row := none) KU)); replace HO_4 := Aside0.mk (Kd.R_mono (Kd.R_told (Kd.R_oldK (IsS60.apart (show IsS60 w0 _ g s0_0 x1001_4 from by repeat (first | (with_reducible first | exact HI0.out | apply IsS60.alloc | apply IsS60.drewN | apply IsS60.drew | apply IsS60.set_1) | exact HI0.out)) (U HO_4.out) (by decide)) hk) (Kd.R_base ho0)) (fun _ h_ => h_.1)); replace HO_5 := Aside0.mk (Kd.R_mono (Kd.R_told (Kd.R_oldK (IsS60.apart (show IsS60 w0 _ g s0_0 x1001_4 from by repeat (first | (with_reducible first | exact HI0.out | apply IsS60.alloc | apply IsS60.drewN | apply IsS60.drew | apply IsS60.set_1) | exact HI0.out)) (U HO_5.out) (by decide)) hk) (Kd.R_base ho0)) (fun _ h_ => h_.1)); replace HK := Aside0.mk (KeepBut.trans KU hk (.inl rfl)); replace HB := Aside0.mk (hb); replace HI0 := Aside0.mk (hi); (try clear hb); (try clear hk); (try clear hi); (try clear ho0)))
      go_ret2
      exact ⟨_, _, by first | rfl | (simp [errW_none, errW_some] <;> rfl) | (simp [*, errW_none, errW_some] <;> rfl), Kd.RM HO_4.out (fun _ hk => hk.2), Kd.RM HO358.out (fun _ hk => hk.1.2), by repeat (first | (with_reducible first | exact HI0.out | apply IsS60.alloc | apply IsS60.drewN | apply IsS60.drew | apply IsS60.set_1) | exact HI0.out), by repeat (first | (with_reducible first | exact HB.out | apply below_alloc | apply pw_below_drewN | apply below_drew1 | refine below_set ?_ (IsS60.ge HI0.out)) | exact HB.out), by repeat (first | (with_reducible first | exact HK.out | apply KeepBut.set_ | apply keep_drewN | apply keep_drew | apply keep_alloc) | exact HK.out)⟩

/-! ### spec_l6Open: function 23 -/
def spec_l6Open.f (l0 : List Int) : Option (List Int × Int) := if (l0.length : Int) > 2000 then (if 2000 ≤ (l0.length : Int) then (some (l0.take 2000, 0)) else (none)) else (some (l0, 0))
set_option maxHeartbeats 8000000 in
set_option maxRecDepth 100000 in
theorem spec_l6Open.calls (A0 : Option Addr) (c0 : Nat) (l0 : List Int) (r1 : List Int) (r2 : Int) (w0 w : World) (hB : Below w0.heap.size w0 w) (hr0 : Kd.C (Kd.int .u8) w0 A0 l0.length l0) (hc0 : l0.length ≤ c0) (h : spec_l6Open.f l0 = some (r1, r2)) :
    Calls Try.prog 23 #[.slice A0 l0.length c0] w fun e w' => ∃ g_ : Nat, e = .returned (.pointer (some ⟨g_, 0, none⟩)) ∧ IsS60 w0 w' g_ r1 r2 ∧ Below w0.heap.size w0 w' ∧ Below w.heap.size w w' := by
  have hu60 := Try.underlying60; have HR0 := Aside0.mk hr0; have HC0 := Aside0.mk hc0; clear hr0 hc0; have HBW := Aside0.mk (Below.refl w.heap.size w); have HW0 := Aside0.mk hB.size; have HB := Aside0.mk hB; clear hB; unfold spec_l6Open.f at h; have H := h; clear h
  by_cases c2 : (l0.length : Int) > 2000
  · rw [if_pos c2] at H
    have c2b0 : decide (2000 < (l0.length : Int)) = true := decide_eq_true c2; have c2b1 : decide (2000 < l0.length) = true := decide_eq_true (by omega); clear c2; obtain ⟨c3, H⟩ := ifN H; have c3b0 := eq_true c3; have c3b1 : decide (2000 ≤ (l0.length : Int)) = true := decide_eq_true c3; clear c3; simp only [Option.some.injEq, Prod.mk.injEq] at H; obtain ⟨rfl, rfl⟩ := H; obtain ⟨i04, hi04, _, hsz4, _⟩ := info_parts info5; obtain ⟨hcut4, hA4, hC4⟩ := print_take_of (P := Try.prog) (Value.int .u8) 0 22 5 .i64 Try.underlying22 hi04 hsz4 A0 c0 l0 2000 (by omega) (oD) HC0.out; have HR360 := Aside0.mk (Kd.C_of_reads (h1 := fun _ => rfl) (hA4 _ (Kd.reads_of_C HR0.out))); have HC360 := Aside0.mk hC4; clear hA4 hC4 hi04 hsz4; go_enter Try.func23, Try.ntmps23
    go_wp2_with (first | ((with_reducible refine gate_dst (N := 10) rfl ?_); refine boxE (N := 10) (cs := #[.slice A0 (l0.take 2000).length c0, .int .i64 0]) (t := 60) ?_; intro gb361 hg w5 hbox hb; replace HB := BS hb; have BK361 := Aside0.mk (hbox); have GW361 := Aside0.mk ((by rw [hg]; exact (below_size (by repeat (first | (with_reducible first | exact HBW.out | apply below_alloc | apply pw_below_drewN | apply below_drew1) | exact HBW.out))) : w.heap.size ≤ gb361)); have GE361 := Aside0.mk ((Nat.le_trans HW0.out (by rw [hg]; exact (below_size (by repeat (first | (with_reducible first | exact HBW.out | apply below_alloc | apply pw_below_drewN | apply below_drew1) | exact HBW.out))) : w.heap.size ≤ gb361) : w0.heap.size ≤ gb361)); replace HBW := Aside0.mk (below_step HBW.out hb); clear hb hbox hg))
    go_ret
    exact ⟨_, rfl, (show IsS60 w0 _ gb361 (l0.take 2000) 0 from ⟨_, _, U BK361.out, GE361.out, HR360.out⟩), BU, by repeat (first | (with_reducible first | exact HBW.out | apply below_alloc | apply pw_below_drewN | apply below_drew1 | refine below_set ?_ GW361.out) | exact HBW.out)⟩
  rw [if_neg c2] at H; have c2b0 : decide (2000 < (l0.length : Int)) = false := decide_eq_false c2; have c2b1 : decide (2000 < l0.length) = false := decide_eq_false (by omega); clear c2; simp only [Option.some.injEq, Prod.mk.injEq] at H; obtain ⟨rfl, rfl⟩ := H; go_enter Try.func23, Try.ntmps23
  go_wp2_with (first | ((with_reducible refine gate_dst (N := 10) rfl ?_); refine boxE (N := 10) (cs := #[.slice A0 l0.length c0, .int .i64 0]) (t := 60) ?_; intro gb362 hg w6 hbox hb; replace HB := BS hb; have BK362 := Aside0.mk (hbox); have GW362 := Aside0.mk ((by rw [hg]; exact (below_size (by repeat (first | (with_reducible first | exact HBW.out | apply below_alloc | apply pw_below_drewN | apply below_drew1) | exact HBW.out))) : w.heap.size ≤ gb362)); have GE362 := Aside0.mk ((Nat.le_trans HW0.out (by rw [hg]; exact (below_size (by repeat (first | (with_reducible first | exact HBW.out | apply below_alloc | apply pw_below_drewN | apply below_drew1) | exact HBW.out))) : w.heap.size ≤ gb362) : w0.heap.size ≤ gb362)); replace HBW := Aside0.mk (below_step HBW.out hb); clear hb hbox hg))
  go_ret
  exact ⟨_, rfl, (show IsS60 w0 _ gb362 l0 0 from ⟨_, _, U BK362.out, GE362.out, HR0.out⟩), BU, by repeat (first | (with_reducible first | exact HBW.out | apply below_alloc | apply pw_below_drewN | apply below_drew1 | refine below_set ?_ GW362.out) | exact HBW.out)⟩

/-! ### spec_DrawZeroIs: function 6 -/
def spec_DrawZeroIs.f (k : Nat) (l0 : List Int) : Option (List Int × List Int) := (spec_l6Open.f l0).bind fun bt363 => ((spec_l92Zero.f k bt363.1 bt363.2).bind fun bt366 => (some (bt366.1, bt366.2.1)))
theorem spec_DrawZeroIs.mono : ∀ a0 k, LeO (spec_DrawZeroIs.f k a0) (spec_DrawZeroIs.f (k + 1) a0) := by
  intro a0 k
  unfold spec_DrawZeroIs.f
  repeat' first
      | (with_reducible exact spec_l92Zero.mono _ _ _)
      | (with_reducible exact LeO.refl _)
      | (with_reducible exact LeO.none _)
      | (with_reducible refine LeO.ite ?_ ?_)
      | (with_reducible refine LeO.bind ?_ (fun _ => ?_))
      | exact spec_l92Zero.mono _ _ _
      | exact LeO.none _
      | refine LeO.ite ?_ ?_
      | refine LeO.bind ?_ (fun _ => ?_)
set_option maxHeartbeats 8000000 in
set_option maxRecDepth 100000 in
theorem spec_DrawZeroIs.calls (k : Nat) (A0 : Option Addr) (c0 : Nat) (l0 : List Int) (r1 : List Int) (r2 : List Int) (w : World) (hr0 : Kd.C (Kd.int .u8) w A0 l0.length l0) (hc0 : l0.length ≤ c0) (h : spec_DrawZeroIs.f k l0 = some (r1, r2)) :
    Calls Try.prog 6 #[.slice A0 l0.length c0] w fun e w' => ∃ v0_ v1_ : Value, e = .returned (.tuple #[v0_, v1_]) ∧ Kd.R (Kd.int .i64) 3 w' w.heap.size (fun k_ => some k_ ≠ (v1_ : Value).ownBlock) v0_ r1 ∧ Kd.R (Kd.int .i64) 3 w' w.heap.size (fun k_ => some k_ ≠ (v0_ : Value).ownBlock) v1_ r2 ∧ Below w.heap.size w w' := by
  have HR0 := Aside0.mk hr0; have HC0 := Aside0.mk hc0; clear hr0 hc0; have HB := Aside0.mk (Below.refl w.heap.size w); unfold spec_DrawZeroIs.f at h; have H := h; clear h; obtain ⟨⟨t363, t364⟩, A2, H⟩ := bnd H; replace H : ((spec_l92Zero.f k t363 t364).bind fun bt366 => (some (bt366.1, bt366.2.1))) = some (r1, r2) := H; obtain ⟨⟨t366, t369, t372⟩, A3, H⟩ := bnd H; replace H : (some (t366, t369)) = some (r1, r2) := H; simp only [Option.some.injEq, Prod.mk.injEq] at H; obtain ⟨rfl, rfl⟩ := H; go_enter Try.func6, Try.ntmps6
  go_wp2_with (first | ((with_reducible refine gate_callee (f := 23) rfl ?_); refine goesK (some 5) Try.func23 #[.slice A0 l0.length c0] ?_; (with_reducible refine (spec_l6Open.calls _ _ l0 t363 t364 w _ ?side1 ?side2 ?side3 A2.out).mono ?_); (case side1 => repeat (first | (with_reducible first | exact HB.out | apply below_alloc | apply pw_below_drewN | apply below_drew1) | exact HB.out | exact Below.refl _ _)); (case side2 => exact HR0.out); (case side3 => exact HC0.out); rintro e w4 ⟨g365, rfl, hi, hb, hb2⟩; refine ⟨_, rfl, ?_⟩; replace HB := Aside0.mk (hb); have HI365 := Aside0.mk (hi); (try clear hb); (try clear hb2); (try clear hi)) | ((with_reducible refine gate_callee (f := 22) rfl ?_); refine goesK (some 6) Try.func22 #[.pointer (some ⟨g365, 0, none⟩)] ?_; (with_reducible refine (spec_l92Zero.calls k g365 t363 t364 t366 t369 t372 w _ ?side1 ?side2 A3.out).mono ?_); (case side1 => repeat (first | (with_reducible first | exact HI365.out | apply IsS60.alloc | apply IsS60.drewN | apply IsS60.drew | apply IsS60.set_1) | exact HI365.out)); (case side2 => repeat (first | (with_reducible first | exact HB.out | apply below_alloc | apply pw_below_drewN | apply below_drew1 | refine below_set ?_ (IsS60.ge HI365.out)) | exact HB.out)); rintro e w5 ⟨v367, v370, rfl, ho0, ho1, hi, hb, hk⟩; refine ⟨_, rfl, ?_⟩; have HO368 := Aside0.mk (Kd.R_lower ho0 (below_size (by repeat (first | (with_reducible first | exact HB.out | apply below_alloc | apply pw_below_drewN | apply below_drew1 | refine below_set ?_ (IsS60.ge HI365.out)) | exact HB.out)))); have HO371 := Aside0.mk (Kd.R_lower ho1 (below_size (by repeat (first | (with_reducible first | exact HB.out | apply below_alloc | apply pw_below_drewN | apply below_drew1 | refine below_set ?_ (IsS60.ge HI365.out)) | exact HB.out)))); replace HB := Aside0.mk (hb); replace HI365 := Aside0.mk (hi); (try clear hb); (try clear hk); (try clear hi); (try clear ho0); (try clear ho1)))
  go_ret2
  exact ⟨_, _, by first | rfl | (simp [errW_none, errW_some] <;> rfl) | (simp [*, errW_none, errW_some] <;> rfl), U HO368.out, U HO371.out, by repeat (first | (with_reducible first | exact HB.out | apply below_alloc | apply pw_below_drewN | apply below_drew1 | refine below_set ?_ (IsS60.ge HI365.out)) | exact HB.out)⟩

/-! ### impl_size: function 48 -/
def impl_size.f (a0 : Int) : Option (Int) := some (mx a0 (wrap64 (-a0)))
set_option maxHeartbeats 8000000 in
set_option maxRecDepth 100000 in
theorem impl_size.calls (a0 : Int) (r : Int) (w : World) (h : impl_size.f a0 = some r) :
    Calls Try.prog 48 #[.int .i64 a0] w fun e w' => e = .returned (.int .i64 r) ∧ Below w.heap.size w w' := by
  have HB := Aside0.mk (Below.refl w.heap.size w); unfold impl_size.f at h; have H := h; clear h; obtain ⟨ji2, hji2⟩ : ∃ j_ : Int, (mx a0 (wrap64 (-a0))) = j_ := ⟨_, rfl⟩
  replace H : (some ji2) = some r := by first | (rw [hji2] at H; exact H) | (simp only [hji2] at H ⊢; exact H)
  have hji2_ : (if a0 < (wrap64 (-a0)) then (wrap64 (-a0)) else a0) = ji2 := hji2; obtain rfl := Option.some.inj H; go_enter Try.func48, Try.ntmps48
  go_wp2
  go_ret
  exact ⟨by first | rfl | (simp [errW_none, errW_some] <;> rfl) | (simp only [← hji2]; first | rfl | (simp [errW_none, errW_some] <;> rfl)) | (simp [*, errW_none, errW_some] <;> rfl), BU⟩

/-! ### impl_FormValid: function 20 -/
def impl_FormValid.l0 : Nat → List Int → List Int → Int → Int → Option (Bool)
  | 0, _, _, _, _ => none
  | k + 1, x0, x5, x6, x7 => if x7 < x6 then (if 0 ≤ x7 then (if x7 < (x5.length : Int) then (if (rd x5 x7) = 0 then (some false) else ((impl_size.f (rd x5 x7)).bind fun t374 => (if t374 > 30 then (some false) else (impl_FormValid.l0 k x0 x5 x6 (wrap64 (x7 + 1)))))) else (none)) else (none)) else (if (x0.length : Int) ≥ 1 then (some (decide ((x0.length : Int) ≤ 4))) else (some false))
def impl_FormValid.f (k : Nat) (l0 : List Int) : Option (Bool) := impl_FormValid.l0 k l0 l0 (l0.length : Int) 0
theorem impl_FormValid.mono_l : ∀ k, (∀ y0 y1 y2 y3, LeO (impl_FormValid.l0 k y0 y1 y2 y3) (impl_FormValid.l0 (k + 1) y0 y1 y2 y3))
  | 0 => fun _ _ _ _ r h => by simp [impl_FormValid.l0] at h
  | k + 1 => by
    have ih0 := impl_FormValid.mono_l k
    · intro y0 y1 y2 y3
      unfold impl_FormValid.l0
      repeat' first
      | (with_reducible exact ih0 _ _ _ _)
      | (with_reducible exact LeO.refl _)
      | (with_reducible exact LeO.none _)
      | (with_reducible refine LeO.ite ?_ ?_)
      | (with_reducible refine LeO.bind ?_ (fun _ => ?_))
      | exact ih0 _ _ _ _
      | exact LeO.none _
      | refine LeO.ite ?_ ?_
      | refine LeO.bind ?_ (fun _ => ?_)
theorem impl_FormValid.mono : ∀ a0 k, LeO (impl_FormValid.f k a0) (impl_FormValid.f (k + 1) a0) := by
  intro a0 k
  have ih0 := impl_FormValid.mono_l k
  unfold impl_FormValid.f
  repeat' first
      | (with_reducible exact ih0 _ _ _ _)
      | (with_reducible exact LeO.refl _)
      | (with_reducible exact LeO.none _)
      | (with_reducible refine LeO.ite ?_ ?_)
      | (with_reducible refine LeO.bind ?_ (fun _ => ?_))
      | exact ih0 _ _ _ _
      | exact LeO.none _
      | refine LeO.ite ?_ ?_
      | refine LeO.bind ?_ (fun _ => ?_)
set_option maxHeartbeats 8000000 in
set_option maxRecDepth 100000 in
theorem impl_FormValid.calls (k : Nat) (A0 : Option Addr) (c0 : Nat) (l0 : List Int) (r : Bool) (w : World) (hr0 : Kd.C (Kd.int .i64) w A0 l0.length l0) (hc0 : l0.length ≤ c0) (h : impl_FormValid.f k l0 = some r) :
    Calls Try.prog 20 #[.slice A0 l0.length c0] w fun e w' => e = .returned (.bool r) ∧ Below w.heap.size w w' := by
  have HR0 := Aside0.mk hr0; have HC0 := Aside0.mk hc0; clear hr0 hc0; have HB := Aside0.mk (Below.refl w.heap.size w); unfold impl_FormValid.f at h; have H := h; clear h; have H' := Aside0.mk H; clear H; go_enter Try.func20, Try.ntmps20
  go_wp2
  go_loopg [7] k (fun kq v7 w' => ∃ (x7_1 : Int), v7 = .int .i64 x7_1 ∧ Aside0 (impl_FormValid.l0 kq l0 l0 (l0.length : Int) x7_1 = some r) ∧ Aside0 (kq ≤ k) ∧ Aside0 (Below w.heap.size w w'))
  case atStart => exact ⟨(0), sR, H', ⟨Nat.le_refl _⟩, ⟨BU⟩⟩
  case round =>
    clear H'; obtain ⟨x7_1, rfl, HA, HK1, HB⟩ := hrel; cases gk with
    | zero => exact absurd HA.out (by simp [impl_FormValid.l0])
    | succ k1 =>
      have H := HA.out; clear HA; simp only [impl_FormValid.l0] at H
      by_cases c2 : x7_1 < (l0.length : Int)
      · rw [if_pos c2] at H
        have c2b0 : decide (x7_1 < (l0.length : Int)) = true := decide_eq_true c2; clear c2; obtain ⟨c3, H⟩ := ifN H; have c3b0 : decide (0 ≤ x7_1) = true := decide_eq_true c3; clear c3; obtain ⟨c4, H⟩ := ifN H; have c4b0 : decide (x7_1 < (l0.length : Int)) = true := decide_eq_true c4; clear c4
        by_cases c5 : (rd l0 x7_1) = 0
        · rw [if_pos c5] at H
          have c5b0 : ((rd l0 x7_1) == 0) = true := beq_iff_eq.mpr c5; have c5b1 : ((rd l0 x7_1) != 0) = false := bne_eq_false_iff_eq.mpr c5; clear c5; obtain rfl := Option.some.inj H; have p373 : 0 ≤ (x7_1 : Int) := oD; have q373 : x7_1 < (l0.length : Int) := oD; obtain ⟨ad373, e373, hx373_0⟩ := Kd.at_int HR0.out x7_1 p373 q373; cases e373; replace hx373_0 := (HB.out.cell (World.block_lt_of_cell? w _ hx373_0)).trans hx373_0; replace p373 := eq_true p373; replace q373 := eq_true q373
          go_wp2
          go_ret
          exact ⟨eR, BU⟩
        rw [if_neg c5] at H; have c5b0 : ((rd l0 x7_1) == 0) = false := beq_eq_false_iff_ne.mpr c5; have c5b1 : ((rd l0 x7_1) != 0) = true := bne_iff_ne.mpr c5; obtain ⟨t374, A6, H⟩ := bnd H
        by_cases c7 : t374 > 30
        · rw [if_pos c7] at H
          have c7b0 : decide (30 < t374) = true := decide_eq_true c7; clear c7; obtain rfl := Option.some.inj H; have p373 : 0 ≤ (x7_1 : Int) := oD; have q373 : x7_1 < (l0.length : Int) := oD; obtain ⟨ad373, e373, hx373_0⟩ := Kd.at_int HR0.out x7_1 p373 q373; cases e373; replace hx373_0 := (HB.out.cell (World.block_lt_of_cell? w _ hx373_0)).trans hx373_0; replace p373 := eq_true p373; replace q373 := eq_true q373
          go_wp2_with (first | (go_at_call 48; (with_reducible refine (impl_size.calls (rd l0 x7_1) t374 _ A6.out).mono ?_); rintro e w8 ⟨rfl, hb⟩; replace HB := BS hb; (try clear hb)))
          go_ret
          exact ⟨eR, BU⟩
        rw [if_neg c7] at H; have c7b0 : decide (30 < t374) = false := decide_eq_false c7; clear c7; have H' := Aside0.mk H; clear H; have p373 : 0 ≤ (x7_1 : Int) := oD; have q373 : x7_1 < (l0.length : Int) := oD; obtain ⟨ad373, e373, hx373_0⟩ := Kd.at_int HR0.out x7_1 p373 q373; cases e373; replace hx373_0 := (HB.out.cell (World.block_lt_of_cell? w _ hx373_0)).trans hx373_0; replace p373 := eq_true p373; replace q373 := eq_true q373
        go_wp2_with (first | (go_at_call 48; (with_reducible refine (impl_size.calls (rd l0 x7_1) t374 _ A6.out).mono ?_); rintro e w9 ⟨rfl, hb⟩; replace HB := BS hb; (try clear hb)))
        go_roundg k1
        case measure => have := HK1.out; omega
        case rel => exact ⟨(wrap64 (x7_1 + 1)), sR, H', ⟨by have := HK1.out; omega⟩, ⟨BU⟩⟩
      rw [if_neg c2] at H; have c2b0 : decide (x7_1 < (l0.length : Int)) = false := decide_eq_false c2; clear c2
      by_cases c10 : (l0.length : Int) ≥ 1
      · rw [if_pos c10] at H
        have c10b0 : decide (1 ≤ (l0.length : Int)) = true := decide_eq_true c10; have c10b1 : decide (1 ≤ l0.length) = true := decide_eq_true (by omega); clear c10; obtain rfl := Option.some.inj H
        go_wp2
        go_ret
        exact ⟨eR, BU⟩
      rw [if_neg c10] at H; have c10b0 : decide (1 ≤ (l0.length : Int)) = false := decide_eq_false c10; have c10b1 : decide (1 ≤ l0.length) = false := decide_eq_false (by omega); clear c10; obtain rfl := Option.some.inj H
      go_wp2
      go_ret
      exact ⟨eR, BU⟩

/-! ### impl_vectorOk: function 24 -/
def impl_vectorOk.l0 : Nat → List Int → List Int → Int → List Int → Int → Int → Option (Bool)
  | 0, _, _, _, _, _, _ => none
  | k + 1, x0, x1, x2, x9, x10, x11 => if x11 < x10 then (if 0 ≤ x11 then (if x11 < (x9.length : Int) then (if (rd x9 x11) < (wrap64 (-x2)) then (some false) else (if (rd x9 x11) > x2 then (some false) else (impl_vectorOk.l0 k x0 x1 x2 x9 x10 (wrap64 (x11 + 1))))) else (none)) else (none)) else (some ((x1.length : Int) == (x0.length : Int)))
def impl_vectorOk.f (k : Nat) (l0 : List Int) (l1 : List Int) (a2 : Int) : Option (Bool) := impl_vectorOk.l0 k l0 l1 a2 l1 (l1.length : Int) 0
theorem impl_vectorOk.mono_l : ∀ k, (∀ y0 y1 y2 y3 y4 y5, LeO (impl_vectorOk.l0 k y0 y1 y2 y3 y4 y5) (impl_vectorOk.l0 (k + 1) y0 y1 y2 y3 y4 y5))
  | 0 => fun _ _ _ _ _ _ r h => by simp [impl_vectorOk.l0] at h
  | k + 1 => by
    have ih0 := impl_vectorOk.mono_l k
    · intro y0 y1 y2 y3 y4 y5
      unfold impl_vectorOk.l0
      repeat' first
      | (with_reducible exact ih0 _ _ _ _ _ _)
      | (with_reducible exact LeO.refl _)
      | (with_reducible exact LeO.none _)
      | (with_reducible refine LeO.ite ?_ ?_)
      | (with_reducible refine LeO.bind ?_ (fun _ => ?_))
      | exact ih0 _ _ _ _ _ _
      | exact LeO.none _
      | refine LeO.ite ?_ ?_
      | refine LeO.bind ?_ (fun _ => ?_)
theorem impl_vectorOk.mono : ∀ a0 a1 a2 k, LeO (impl_vectorOk.f k a0 a1 a2) (impl_vectorOk.f (k + 1) a0 a1 a2) := by
  intro a0 a1 a2 k
  have ih0 := impl_vectorOk.mono_l k
  unfold impl_vectorOk.f
  repeat' first
      | (with_reducible exact ih0 _ _ _ _ _ _)
      | (with_reducible exact LeO.refl _)
      | (with_reducible exact LeO.none _)
      | (with_reducible refine LeO.ite ?_ ?_)
      | (with_reducible refine LeO.bind ?_ (fun _ => ?_))
      | exact ih0 _ _ _ _ _ _
      | exact LeO.none _
      | refine LeO.ite ?_ ?_
      | refine LeO.bind ?_ (fun _ => ?_)
set_option maxHeartbeats 8000000 in
set_option maxRecDepth 100000 in
theorem impl_vectorOk.calls (k : Nat) (A0 : Option Addr) (c0 : Nat) (l0 : List Int) (A1 : Option Addr) (c1 : Nat) (l1 : List Int) (a2 : Int) (r : Bool) (w : World) (hr0 : Kd.C (Kd.int .i64) w A0 l0.length l0) (hc0 : l0.length ≤ c0) (hr1 : Kd.C (Kd.int .i64) w A1 l1.length l1) (hc1 : l1.length ≤ c1) (h : impl_vectorOk.f k l0 l1 a2 = some r) :
    Calls Try.prog 24 #[.slice A0 l0.length c0, .slice A1 l1.length c1, .int .i64 a2] w fun e w' => e = .returned (.bool r) ∧ Drawn0 w w' := by
  have HR0 := Aside0.mk hr0; have HC0 := Aside0.mk hc0; clear hr0 hc0; have HR1 := Aside0.mk hr1; have HC1 := Aside0.mk hc1; clear hr1 hc1; unfold impl_vectorOk.f at h; have H := h; clear h; have H' := Aside0.mk H; clear H; go_enter Try.func24, Try.ntmps24
  go_wp2
  go_loopg [11] k (fun kq v11 w' => ∃ (x11_1 : Int), v11 = .int .i64 x11_1 ∧ Aside0 (impl_vectorOk.l0 kq l0 l1 a2 l1 (l1.length : Int) x11_1 = some r) ∧ Aside0 (kq ≤ k) ∧ Drawn0 w w')
  case atStart => exact ⟨(0), sR, H', ⟨Nat.le_refl _⟩, by repeat (first | exact Drawn0.refl _ | apply Drawn0.step)⟩
  case round =>
    clear H'; obtain ⟨x11_1, rfl, HA, HK1, ⟨m1, rfl⟩⟩ := hrel; cases gk with
    | zero => exact absurd HA.out (by simp [impl_vectorOk.l0])
    | succ k1 =>
      have H := HA.out; clear HA; simp only [impl_vectorOk.l0] at H
      by_cases c4 : x11_1 < (l1.length : Int)
      · rw [if_pos c4] at H
        have c4b0 : decide (x11_1 < (l1.length : Int)) = true := decide_eq_true c4; clear c4; obtain ⟨c5, H⟩ := ifN H; have c5b0 : decide (0 ≤ x11_1) = true := decide_eq_true c5; clear c5; obtain ⟨c6, H⟩ := ifN H; have c6b0 : decide (x11_1 < (l1.length : Int)) = true := decide_eq_true c6; clear c6
        by_cases c7 : (rd l1 x11_1) < (wrap64 (-a2))
        · rw [if_pos c7] at H
          have c7b0 : decide ((rd l1 x11_1) < (wrap64 (-a2))) = true := decide_eq_true c7; clear c7; obtain rfl := Option.some.inj H; have p375 : 0 ≤ (x11_1 : Int) := oD; have q375 : x11_1 < (l1.length : Int) := oD; obtain ⟨ad375, e375, hx375_0⟩ := Kd.at_int HR1.out x11_1 p375 q375; cases e375; replace p375 := eq_true p375; replace q375 := eq_true q375
          go_wp2
          go_ret
          exact ⟨by first | rfl | (simp; done) | (simp [*]; done), by repeat (first | exact Drawn0.refl _ | apply Drawn0.step)⟩
        rw [if_neg c7] at H; have c7b0 : decide ((rd l1 x11_1) < (wrap64 (-a2))) = false := decide_eq_false c7; clear c7
        by_cases c8 : (rd l1 x11_1) > a2
        · rw [if_pos c8] at H
          have c8b0 : decide (a2 < (rd l1 x11_1)) = true := decide_eq_true c8; clear c8; obtain rfl := Option.some.inj H; have p375 : 0 ≤ (x11_1 : Int) := oD; have q375 : x11_1 < (l1.length : Int) := oD; obtain ⟨ad375, e375, hx375_0⟩ := Kd.at_int HR1.out x11_1 p375 q375; cases e375; replace p375 := eq_true p375; replace q375 := eq_true q375
          go_wp2
          go_ret
          exact ⟨by first | rfl | (simp; done) | (simp [*]; done), by repeat (first | exact Drawn0.refl _ | apply Drawn0.step)⟩
        rw [if_neg c8] at H; have c8b0 : decide (a2 < (rd l1 x11_1)) = false := decide_eq_false c8; clear c8; have H' := Aside0.mk H; clear H; have p375 : 0 ≤ (x11_1 : Int) := oD; have q375 : x11_1 < (l1.length : Int) := oD; obtain ⟨ad375, e375, hx375_0⟩ := Kd.at_int HR1.out x11_1 p375 q375; cases e375; replace p375 := eq_true p375; replace q375 := eq_true q375
        go_wp2
        go_roundg k1
        case measure => have := HK1.out; omega
        case rel => exact ⟨(wrap64 (x11_1 + 1)), sR, H', ⟨by have := HK1.out; omega⟩, by repeat (first | exact Drawn0.refl _ | apply Drawn0.step)⟩
      rw [if_neg c4] at H; have c4b0 : decide (x11_1 < (l1.length : Int)) = false := decide_eq_false c4; clear c4; obtain rfl := Option.some.inj H
      go_wp2
      go_ret
      exact ⟨by first | rfl | (simp; done) | (simp [*]; done), by repeat (first | exact Drawn0.refl _ | apply Drawn0.step)⟩

end Go.Proofs.Ytpjgcjkodmkemaa.PFnZero
