-- Written by a program of this session (wip/print2.py): the functions that the law reaches, plain, and the walks.
import Derived.Test.YtnbeeogmaamgdaaPFnCarryx0
import Derived.Test.YtnbeeogmaamgdaaPFnCarryx6
import Derived.Test.YtnbeeogmaamgdaaPFnCarryx7
namespace Go.Proofs.Ytnbeeogmaamgdaa.PFnCarry
open Go.RowKit Go.Proofs.YtnbeeogmaamgdaaW.PrintWords Go.Proofs.YtnbeeogmaamgdaaW.PrintLast Go.Proofs.YtnbeeogmaamgdaaW.PrintMore
attribute [local go_sem] max2_int min2_int max_two min_two max_three min_three max_four min_four   -- for this text's walks alone
set_option linter.unusedVariables false
set_option linter.unusedSimpArgs false

/-! ### spec_DrawMoveCarry: function 27 -/
def spec_DrawMoveCarry.l0 : Nat → List Int → List Int → List Int → Int → List Int → Int → Option (List Int × List Int × List Int)
  | 0, _, _, _, _, _, _ => none
  | k + 1, x6, x7, x8, x9, x266000, x266001 => if x9 < (x7.length : Int) then (if 0 ≤ x9 then ((spec_l6Rd_pick.f k x266000 x266001 2).bind fun bt284 => (if x8.length < 17592186044416 then (spec_DrawMoveCarry.l0 k x6 x7 (x8 ++ [wrap64 ((rd x7 x9) * (wrap64 (1 - (wrap64 (2 * bt284.1)))))]) (wrap64 (x9 + 1)) x266000 bt284.2) else (none))) else (none)) else (if (x6.length : Int) = 3 then (if 0 < (x6.length : Int) then (if 1 < (x6.length : Int) then (if (rd x6 0) = (rd x6 1) then ((spec_l6Rd_pick.f k x266000 x266001 2).bind fun bt291 => (if bt291.1 = 0 then (if 0 < (x8.length : Int) then (if 1 < (x8.length : Int) then (some (x6, x7, ((x8.set (0 : Int).toNat (rd x8 1)).set (1 : Int).toNat (rd x8 0)))) else (none)) else (none)) else (some (x6, x7, x8)))) else (some (x6, x7, x8))) else (none)) else (none)) else (some (x6, x7, x8)))
def spec_DrawMoveCarry.f (k : Nat) (l0 : List Int) : Option (List Int × List Int × List Int) := (spec_l6Open.f l0).bind fun bt263 => ((spec_l92Small.f k bt263.1 bt263.2).bind fun bt266 => ((spec_l91Vector.f k bt263.1 bt266.2 bt266.1 3).bind fun bt270 => ((spec_l6Rd_pick.f k bt263.1 bt270.2 4).bind fun bt274 => (if bt274.1 = 0 then ((spec_l91Vector.f k bt263.1 bt274.2 bt266.1 3).bind fun bt276 => (some (bt266.1, bt270.1, bt276.1))) else (if bt274.1 = 1 then (some (bt266.1, bt270.1, bt270.1)) else (spec_DrawMoveCarry.l0 k bt266.1 bt270.1 (([] : List Int)) 0 bt263.1 bt274.2))))))
theorem spec_DrawMoveCarry.mono_l : ∀ k, (∀ y0 y1 y2 y3 y4 y5, LeO (spec_DrawMoveCarry.l0 k y0 y1 y2 y3 y4 y5) (spec_DrawMoveCarry.l0 (k + 1) y0 y1 y2 y3 y4 y5))
  | 0 => fun _ _ _ _ _ _ r h => by simp [spec_DrawMoveCarry.l0] at h
  | k + 1 => by
    have ih0 := spec_DrawMoveCarry.mono_l k
    · intro y0 y1 y2 y3 y4 y5
      unfold spec_DrawMoveCarry.l0
      repeat' first
      | (with_reducible exact ih0 _ _ _ _ _ _)
      | (with_reducible exact spec_l6Rd_pick.mono _ _ _ _)
      | (with_reducible exact spec_l91Vector.mono _ _ _ _ _)
      | (with_reducible exact spec_l92Small.mono _ _ _)
      | (with_reducible exact LeO.refl _)
      | (with_reducible exact LeO.none _)
      | (with_reducible refine LeO.ite ?_ ?_)
      | (with_reducible refine LeO.bind ?_ (fun _ => ?_))
      | exact ih0 _ _ _ _ _ _
      | exact spec_l6Rd_pick.mono _ _ _ _
      | exact spec_l91Vector.mono _ _ _ _ _
      | exact spec_l92Small.mono _ _ _
      | exact LeO.none _
      | refine LeO.ite ?_ ?_
      | refine LeO.bind ?_ (fun _ => ?_)
theorem spec_DrawMoveCarry.mono : ∀ a0 k, LeO (spec_DrawMoveCarry.f k a0) (spec_DrawMoveCarry.f (k + 1) a0) := by
  intro a0 k
  have ih0 := spec_DrawMoveCarry.mono_l k
  unfold spec_DrawMoveCarry.f
  repeat' first
      | (with_reducible exact ih0 _ _ _ _ _ _)
      | (with_reducible exact spec_l6Rd_pick.mono _ _ _ _)
      | (with_reducible exact spec_l91Vector.mono _ _ _ _ _)
      | (with_reducible exact spec_l92Small.mono _ _ _)
      | (with_reducible exact LeO.refl _)
      | (with_reducible exact LeO.none _)
      | (with_reducible refine LeO.ite ?_ ?_)
      | (with_reducible refine LeO.bind ?_ (fun _ => ?_))
      | exact ih0 _ _ _ _ _ _
      | exact spec_l6Rd_pick.mono _ _ _ _
      | exact spec_l91Vector.mono _ _ _ _ _
      | exact spec_l92Small.mono _ _ _
      | exact LeO.none _
      | refine LeO.ite ?_ ?_
      | refine LeO.bind ?_ (fun _ => ?_)
def spec_DrawMoveCarry.T13 : Bool × List (List Nat × List Nat) := (true, [([], []), ([], []), ([], []), ([1, 2], [1, 2]), ([3], [3]), ([], []), ([5], [5]), ([6], [6]), ([7], [7]), ([4, 8], [4, 8]), ([9], [9]), ([0, 10, 6], [0, 10]), ([11, 11, 0, 1, 2, 3, 4, 5, 6, 7, 8, 9, 10, 11], [0, 11])])
def spec_DrawMoveCarry.B13 : List Nat := [0, 0, 0, 6, 14, 0, 32, 96, 224, 510, 1022, 2047, 4095]
theorem spec_DrawMoveCarry.tab13 : rtab .any (opsOf Try.f27 13) = spec_DrawMoveCarry.T13 := by kernel_rfl
theorem spec_DrawMoveCarry.bits13 : waitsOk spec_DrawMoveCarry.T13.2 spec_DrawMoveCarry.B13 = true := by kernel_rfl
def spec_DrawMoveCarry.T14 : Bool × List (List Nat × List Nat) := (true, [([], []), ([0], [0]), ([1], [1]), ([2], [2]), ([3], [3]), ([4, 3], [3, 4]), ([5, 3], [3, 5]), ([3], [3]), ([7, 3], [3, 7]), ([8, 3], [3, 8]), ([6, 9, 3], [3, 6, 9]), ([3, 10], [3, 10]), ([11, 3], [11]), ([12], [12]), ([13, 12, 12], [12, 13]), ([14, 12], [12, 14]), ([12, 15], [12, 15])])
def spec_DrawMoveCarry.B14 : List Nat := [0, 1, 3, 7, 15, 31, 63, 15, 143, 399, 1023, 2047, 4095, 8191, 16383, 32767, 65535]
theorem spec_DrawMoveCarry.tab14 : rtab .any (opsOf Try.f27 14) = spec_DrawMoveCarry.T14 := by kernel_rfl
theorem spec_DrawMoveCarry.bits14 : waitsOk spec_DrawMoveCarry.T14.2 spec_DrawMoveCarry.B14 = true := by kernel_rfl
set_option maxHeartbeats 8000000 in
set_option maxRecDepth 100000 in
theorem spec_DrawMoveCarry.calls (k : Nat) (A0 : Option Addr) (c0 : Nat) (l0 : List Int) (r1 : List Int) (r2 : List Int) (r3 : List Int) (w : World) (hr0 : Kd.C (Kd.int .u8) w A0 l0.length l0) (hc0 : l0.length ≤ c0) (h : spec_DrawMoveCarry.f k l0 = some (r1, r2, r3)) :
    Calls Try.prog 27 #[.slice A0 l0.length c0] w fun e w' => ∃ v0_ v1_ v2_ : Value, e = .returned (.tuple #[v0_, v1_, v2_]) ∧ Kd.Q (Kd.int .i64) 3 w' w.heap.size (fun k_ => (w.heap.size ≤ k_)) v0_ r1 ∧ Kd.V (Kd.int .i64) 3 w' w.heap.size (fun k_ => (w.heap.size ≤ k_) ∧ some k_ ≠ (v0_ : Value).ownBlock) v1_ r2 ∧ Kd.V (Kd.int .i64) 3 w' w.heap.size (fun k_ => (w.heap.size ≤ k_) ∧ some k_ ≠ (v0_ : Value).ownBlock) v2_ r3 ∧ Below w.heap.size w w' := by
  have HR0 := Aside0.mk hr0; have HC0 := Aside0.mk hc0; clear hr0 hc0; have HB := Aside0.mk (Below.refl w.heap.size w); unfold spec_DrawMoveCarry.f at h; have H := h; clear h; obtain ⟨⟨t263, t264⟩, A2, H⟩ := bnd H
  replace H : ((spec_l92Small.f k t263 t264).bind fun bt266 => ((spec_l91Vector.f k t263 bt266.2 bt266.1 3).bind fun bt270 => ((spec_l6Rd_pick.f k t263 bt270.2 4).bind fun bt274 => (if bt274.1 = 0 then ((spec_l91Vector.f k t263 bt274.2 bt266.1 3).bind fun bt276 => (some (bt266.1, bt270.1, bt276.1))) else (if bt274.1 = 1 then (some (bt266.1, bt270.1, bt270.1)) else (spec_DrawMoveCarry.l0 k bt266.1 bt270.1 (([] : List Int)) 0 t263 bt274.2)))))) = some (r1, r2, r3) := H
  obtain ⟨⟨t266, t269⟩, A3, H⟩ := bnd H
  replace H : ((spec_l91Vector.f k t263 t269 t266 3).bind fun bt270 => ((spec_l6Rd_pick.f k t263 bt270.2 4).bind fun bt274 => (if bt274.1 = 0 then ((spec_l91Vector.f k t263 bt274.2 t266 3).bind fun bt276 => (some (t266, bt270.1, bt276.1))) else (if bt274.1 = 1 then (some (t266, bt270.1, bt270.1)) else (spec_DrawMoveCarry.l0 k t266 bt270.1 (([] : List Int)) 0 t263 bt274.2))))) = some (r1, r2, r3) := H
  obtain ⟨⟨t270, t273⟩, A4, H⟩ := bnd H
  replace H : ((spec_l6Rd_pick.f k t263 t273 4).bind fun bt274 => (if bt274.1 = 0 then ((spec_l91Vector.f k t263 bt274.2 t266 3).bind fun bt276 => (some (t266, t270, bt276.1))) else (if bt274.1 = 1 then (some (t266, t270, t270)) else (spec_DrawMoveCarry.l0 k t266 t270 (([] : List Int)) 0 t263 bt274.2)))) = some (r1, r2, r3) := H
  obtain ⟨⟨t274, t275⟩, A5, H⟩ := bnd H; replace H : (if t274 = 0 then ((spec_l91Vector.f k t263 t275 t266 3).bind fun bt276 => (some (t266, t270, bt276.1))) else (if t274 = 1 then (some (t266, t270, t270)) else (spec_DrawMoveCarry.l0 k t266 t270 (([] : List Int)) 0 t263 t275))) = some (r1, r2, r3) := H
  by_cases c6 : t274 = 0
  · rw [if_pos c6] at H
    have c6b0 : (t274 == 0) = true := beq_iff_eq.mpr c6; have c6b1 : (t274 != 0) = false := bne_eq_false_iff_eq.mpr c6; clear c6; obtain ⟨⟨t276, t279⟩, A7, H⟩ := bnd H; replace H : (some (t266, t270, t276)) = some (r1, r2, r3) := H; simp only [Option.some.injEq, Prod.mk.injEq] at H; obtain ⟨rfl, rfl, rfl⟩ := H; go_enter Try.func27, Try.ntmps27
    go_wp2_with (first | ((with_reducible refine gate_callee (f := 51) rfl ?_); refine goesK (some 12) Try.func51 #[.slice A0 l0.length c0] ?_; (with_reducible refine (spec_l6Open.calls _ _ l0 t263 t264 w _ ?side1 ?side2 ?side3 A2.out).mono ?_); (case side1 => repeat (first | (with_reducible first | exact HB.out | apply below_alloc | apply pw_below_drewN | apply below_drew1) | exact HB.out | exact Below.refl _ _)); (case side2 => exact HR0.out); (case side3 => exact HC0.out); rintro e w8 ⟨g265, rfl, hi, hb, hb2⟩; refine ⟨_, rfl, ?_⟩; replace HB := Aside0.mk (hb); have HI265 := Aside0.mk (hi); (try clear hb); (try clear hb2); (try clear hi)) | ((with_reducible refine gate_callee (f := 70) rfl ?_); refine goesK (some 14) Try.func70 #[.pointer (some ⟨g265, 0, none⟩)] ?_; (with_reducible refine (spec_l92Small.calls k g265 t263 t264 t266 t269 w _ ?side1 ?side2 A3.out).mono ?_); (case side1 => repeat (first | (with_reducible first | exact HI265.out | apply IsS83.alloc | apply IsS83.drewN | apply IsS83.drew | apply IsS83.set_1) | exact HI265.out)); (case side2 => repeat (first | (with_reducible first | exact HB.out | apply below_alloc | apply pw_below_drewN | apply below_drew1 | refine below_set ?_ (IsS83.ge HI265.out)) | exact HB.out)); rintro e w9 ⟨v267, rfl, ho0, hi, hb, hk⟩; refine ⟨_, rfl, ?_⟩; have HO268 := Aside0.mk (Kd.Q_lower (Kd.Q_newM (M := fun k_ => (w.heap.size ≤ k_)) ho0 (below_size (by repeat (first | (with_reducible first | exact HB.out | apply below_alloc | apply pw_below_drewN | apply below_drew1 | refine below_set ?_ (IsS83.ge HI265.out)) | exact HB.out))) (fun k_ h_ => h_)) (below_size (by repeat (first | (with_reducible first | exact HB.out | apply below_alloc | apply pw_below_drewN | apply below_drew1 | refine below_set ?_ (IsS83.ge HI265.out)) | exact HB.out)))); replace HB := Aside0.mk (hb); replace HI265 := Aside0.mk (hi); (try clear hb); (try clear hk); (try clear hi); (try clear ho0); obtain ⟨Ao10, co10, eo10, _⟩ := Kd.Q_slice HO268.out; subst eo10) | ((with_reducible refine gate_callee (f := 65) rfl ?_); refine goesK (some 17) Try.func65 #[.pointer (some ⟨g265, 0, none⟩), .slice Ao10 t266.length co10, .int .i64 3] ?_; (with_reducible refine (spec_l91Vector.calls k g265 t263 t269 _ _ t266 3 t270 t273 w _ ?side1 ?side2 ?side3 ?side4 ?side5 A4.out).mono ?_); (case side1 => repeat (first | (with_reducible first | exact HI265.out | apply IsS83.alloc | apply IsS83.drewN | apply IsS83.drew | apply IsS83.set_1) | exact HI265.out)); (case side2 => repeat (first | (with_reducible first | exact HB.out | apply below_alloc | apply pw_below_drewN | apply below_drew1 | refine below_set ?_ (IsS83.ge HI265.out)) | exact HB.out)); (case side3 => exact U ((Kd.Q_reads' HO268.out).2.2)); (case side4 => exact (Kd.Q_reads' HO268.out).2.1); (case side5 => exact far_slice (IsS83.own_neQ HI265.out HO268.out (by decide))); rintro e w11 ⟨v271, rfl, ho0, hi, hb, hk⟩; refine ⟨_, rfl, ?_⟩; have HO272 := Aside0.mk (Kd.R_lower (Kd.R_new' (Kd.R_newM (M := fun k_ => (w.heap.size ≤ k_)) ho0 (below_size (by repeat (first | (with_reducible first | exact HB.out | apply below_alloc | apply pw_below_drewN | apply below_drew1 | refine below_set ?_ (IsS83.ge HI265.out)) | exact HB.out))) (fun k_ h_ => h_)) (Kd.Q_lt (U HO268.out))) (below_size (by repeat (first | (with_reducible first | exact HB.out | apply below_alloc | apply pw_below_drewN | apply below_drew1 | refine below_set ?_ (IsS83.ge HI265.out)) | exact HB.out)))); replace HO268 := Aside0.mk (Kd.Q_mono (Kd.Q_told (Kd.Q_oldK (IsS83.apartQ (show IsS83 w _ g265 t263 t269 from by repeat (first | (with_reducible first | exact HI265.out | apply IsS83.alloc | apply IsS83.drewN | apply IsS83.drew | apply IsS83.set_1) | exact HI265.out)) (U HO268.out) (by decide)) hk) (Kd.R_base ho0)) (fun _ h_ => h_.1)); replace HB := Aside0.mk (hb); replace HI265 := Aside0.mk (hi); (try clear hb); (try clear hk); (try clear hi); (try clear ho0)) | ((with_reducible refine gate_callee (f := 71) rfl ?_); refine goesK (some 19) Try.func71 #[.pointer (some ⟨g265, 0, none⟩), .int .i64 4] ?_; (with_reducible refine (spec_l6Rd_pick.calls k g265 t263 t273 4 t274 t275 w _ ?side1 ?side2 A5.out).mono ?_); (case side1 => repeat (first | (with_reducible first | exact HI265.out | apply IsS83.alloc | apply IsS83.drewN | apply IsS83.drew | apply IsS83.set_1) | exact HI265.out)); (case side2 => repeat (first | (with_reducible first | exact HB.out | apply below_alloc | apply pw_below_drewN | apply below_drew1 | refine below_set ?_ (IsS83.ge HI265.out)) | exact HB.out)); rintro e w12 ⟨rfl, hi, hb, hk⟩; refine ⟨_, rfl, ?_⟩; replace HO268 := Aside0.mk (Kd.Q_mono (Kd.Q_keep (IsS83.apartQ (show IsS83 w _ g265 t263 t273 from by repeat (first | (with_reducible first | exact HI265.out | apply IsS83.alloc | apply IsS83.drewN | apply IsS83.drew | apply IsS83.set_1) | exact HI265.out)) (U HO268.out) (by decide)) hk (fun _ h => h.2)) (fun _ h => h.1)); replace HO272 := Aside0.mk (Kd.R_mono (Kd.R_keep (IsS83.apart (show IsS83 w _ g265 t263 t273 from by repeat (first | (with_reducible first | exact HI265.out | apply IsS83.alloc | apply IsS83.drewN | apply IsS83.drew | apply IsS83.set_1) | exact HI265.out)) (U HO272.out) (by decide)) hk (fun _ h => h.2)) (fun _ h => h.1)); replace HB := Aside0.mk (hb); replace HI265 := Aside0.mk (hi); (try clear hb); (try clear hk); (try clear hi)) | ((with_reducible refine gate_callee (f := 65) rfl ?_); refine goesK (some 26) Try.func65 #[.pointer (some ⟨g265, 0, none⟩), .slice Ao10 t266.length co10, .int .i64 3] ?_; (with_reducible refine (spec_l91Vector.calls k g265 t263 t275 _ _ t266 3 t276 t279 w _ ?side1 ?side2 ?side3 ?side4 ?side5 A7.out).mono ?_); (case side1 => repeat (first | (with_reducible first | exact HI265.out | apply IsS83.alloc | apply IsS83.drewN | apply IsS83.drew | apply IsS83.set_1) | exact HI265.out)); (case side2 => repeat (first | (with_reducible first | exact HB.out | apply below_alloc | apply pw_below_drewN | apply below_drew1 | refine below_set ?_ (IsS83.ge HI265.out)) | exact HB.out)); (case side3 => exact U ((Kd.Q_reads' HO268.out).2.2)); (case side4 => exact (Kd.Q_reads' HO268.out).2.1); (case side5 => exact far_slice (IsS83.own_neQ HI265.out HO268.out (by decide))); rintro e w13 ⟨v277, rfl, ho0, hi, hb, hk⟩; refine ⟨_, rfl, ?_⟩; have HO278 := Aside0.mk (Kd.R_lower (Kd.R_new' (Kd.R_new' (Kd.R_newM (M := fun k_ => (w.heap.size ≤ k_)) ho0 (below_size (by repeat (first | (with_reducible first | exact HB.out | apply below_alloc | apply pw_below_drewN | apply below_drew1 | refine below_set ?_ (IsS83.ge HI265.out)) | exact HB.out))) (fun k_ h_ => h_)) (Kd.Q_lt (U HO268.out))) (Kd.R_lt (U HO272.out))) (below_size (by repeat (first | (with_reducible first | exact HB.out | apply below_alloc | apply pw_below_drewN | apply below_drew1 | refine below_set ?_ (IsS83.ge HI265.out)) | exact HB.out)))); replace HO268 := Aside0.mk (Kd.Q_mono (Kd.Q_told (Kd.Q_oldK (IsS83.apartQ (show IsS83 w _ g265 t263 t275 from by repeat (first | (with_reducible first | exact HI265.out | apply IsS83.alloc | apply IsS83.drewN | apply IsS83.drew | apply IsS83.set_1) | exact HI265.out)) (U HO268.out) (by decide)) hk) (Kd.R_base ho0)) (fun _ h_ => h_.1)); replace HO272 := Aside0.mk (Kd.R_mono (Kd.R_told (Kd.R_oldK (IsS83.apart (show IsS83 w _ g265 t263 t275 from by repeat (first | (with_reducible first | exact HI265.out | apply IsS83.alloc | apply IsS83.drewN | apply IsS83.drew | apply IsS83.set_1) | exact HI265.out)) (U HO272.out) (by decide)) hk) (Kd.R_base ho0)) (fun _ h_ => h_.1)); replace HB := Aside0.mk (hb); replace HI265 := Aside0.mk (hi); (try clear hb); (try clear hk); (try clear hi); (try clear ho0)))
    go_ret3
    exact ⟨_, _, _, by first | rfl | (simp [errW_none, errW_some] <;> rfl) | (simp [*, errW_none, errW_some] <;> rfl), Kd.QM HO268.out (fun _ hk => hk.1.1.1), Kd.R_V (Kd.RM HO272.out (fun _ hk => ⟨hk.1.1.1, hk.1.2⟩)), Kd.R_V (Kd.RM HO278.out (fun _ hk => ⟨hk.1.1.1, hk.1.2⟩)), by repeat (first | (with_reducible first | exact HB.out | apply below_alloc | apply pw_below_drewN | apply below_drew1 | refine below_set ?_ (IsS83.ge HI265.out)) | exact HB.out)⟩
  rw [if_neg c6] at H; have c6b0 : (t274 == 0) = false := beq_eq_false_iff_ne.mpr c6; have c6b1 : (t274 != 0) = true := bne_iff_ne.mpr c6
  by_cases c14 : t274 = 1
  · rw [if_pos c14] at H
    have c14b0 : (t274 == 1) = true := beq_iff_eq.mpr c14; have c14b1 : (t274 != 1) = false := bne_eq_false_iff_eq.mpr c14; clear c14; simp only [Option.some.injEq, Prod.mk.injEq] at H; obtain ⟨rfl, rfl, rfl⟩ := H; go_enter Try.func27, Try.ntmps27
    go_wp2_with (first | ((with_reducible refine gate_callee (f := 51) rfl ?_); refine goesK (some 12) Try.func51 #[.slice A0 l0.length c0] ?_; (with_reducible refine (spec_l6Open.calls _ _ l0 t263 t264 w _ ?side1 ?side2 ?side3 A2.out).mono ?_); (case side1 => repeat (first | (with_reducible first | exact HB.out | apply below_alloc | apply pw_below_drewN | apply below_drew1) | exact HB.out | exact Below.refl _ _)); (case side2 => exact HR0.out); (case side3 => exact HC0.out); rintro e w15 ⟨g265, rfl, hi, hb, hb2⟩; refine ⟨_, rfl, ?_⟩; replace HB := Aside0.mk (hb); have HI265 := Aside0.mk (hi); (try clear hb); (try clear hb2); (try clear hi)) | ((with_reducible refine gate_callee (f := 70) rfl ?_); refine goesK (some 14) Try.func70 #[.pointer (some ⟨g265, 0, none⟩)] ?_; (with_reducible refine (spec_l92Small.calls k g265 t263 t264 t266 t269 w _ ?side1 ?side2 A3.out).mono ?_); (case side1 => repeat (first | (with_reducible first | exact HI265.out | apply IsS83.alloc | apply IsS83.drewN | apply IsS83.drew | apply IsS83.set_1) | exact HI265.out)); (case side2 => repeat (first | (with_reducible first | exact HB.out | apply below_alloc | apply pw_below_drewN | apply below_drew1 | refine below_set ?_ (IsS83.ge HI265.out)) | exact HB.out)); rintro e w16 ⟨v267, rfl, ho0, hi, hb, hk⟩; refine ⟨_, rfl, ?_⟩; have HO268 := Aside0.mk (Kd.Q_lower (Kd.Q_newM (M := fun k_ => (w.heap.size ≤ k_)) ho0 (below_size (by repeat (first | (with_reducible first | exact HB.out | apply below_alloc | apply pw_below_drewN | apply below_drew1 | refine below_set ?_ (IsS83.ge HI265.out)) | exact HB.out))) (fun k_ h_ => h_)) (below_size (by repeat (first | (with_reducible first | exact HB.out | apply below_alloc | apply pw_below_drewN | apply below_drew1 | refine below_set ?_ (IsS83.ge HI265.out)) | exact HB.out)))); replace HB := Aside0.mk (hb); replace HI265 := Aside0.mk (hi); (try clear hb); (try clear hk); (try clear hi); (try clear ho0); obtain ⟨Ao17, co17, eo17, _⟩ := Kd.Q_slice HO268.out; subst eo17) | ((with_reducible refine gate_callee (f := 65) rfl ?_); refine goesK (some 17) Try.func65 #[.pointer (some ⟨g265, 0, none⟩), .slice Ao17 t266.length co17, .int .i64 3] ?_; (with_reducible refine (spec_l91Vector.calls k g265 t263 t269 _ _ t266 3 t270 t273 w _ ?side1 ?side2 ?side3 ?side4 ?side5 A4.out).mono ?_); (case side1 => repeat (first | (with_reducible first | exact HI265.out | apply IsS83.alloc | apply IsS83.drewN | apply IsS83.drew | apply IsS83.set_1) | exact HI265.out)); (case side2 => repeat (first | (with_reducible first | exact HB.out | apply below_alloc | apply pw_below_drewN | apply below_drew1 | refine below_set ?_ (IsS83.ge HI265.out)) | exact HB.out)); (case side3 => exact U ((Kd.Q_reads' HO268.out).2.2)); (case side4 => exact (Kd.Q_reads' HO268.out).2.1); (case side5 => exact far_slice (IsS83.own_neQ HI265.out HO268.out (by decide))); rintro e w18 ⟨v271, rfl, ho0, hi, hb, hk⟩; refine ⟨_, rfl, ?_⟩; have HO272 := Aside0.mk (Kd.R_lower (Kd.R_new' (Kd.R_newM (M := fun k_ => (w.heap.size ≤ k_)) ho0 (below_size (by repeat (first | (with_reducible first | exact HB.out | apply below_alloc | apply pw_below_drewN | apply below_drew1 | refine below_set ?_ (IsS83.ge HI265.out)) | exact HB.out))) (fun k_ h_ => h_)) (Kd.Q_lt (U HO268.out))) (below_size (by repeat (first | (with_reducible first | exact HB.out | apply below_alloc | apply pw_below_drewN | apply below_drew1 | refine below_set ?_ (IsS83.ge HI265.out)) | exact HB.out)))); replace HO268 := Aside0.mk (Kd.Q_mono (Kd.Q_told (Kd.Q_oldK (IsS83.apartQ (show IsS83 w _ g265 t263 t269 from by repeat (first | (with_reducible first | exact HI265.out | apply IsS83.alloc | apply IsS83.drewN | apply IsS83.drew | apply IsS83.set_1) | exact HI265.out)) (U HO268.out) (by decide)) hk) (Kd.R_base ho0)) (fun _ h_ => h_.1)); replace HB := Aside0.mk (hb); replace HI265 := Aside0.mk (hi); (try clear hb); (try clear hk); (try clear hi); (try clear ho0)) | ((with_reducible refine gate_callee (f := 71) rfl ?_); refine goesK (some 19) Try.func71 #[.pointer (some ⟨g265, 0, none⟩), .int .i64 4] ?_; (with_reducible refine (spec_l6Rd_pick.calls k g265 t263 t273 4 t274 t275 w _ ?side1 ?side2 A5.out).mono ?_); (case side1 => repeat (first | (with_reducible first | exact HI265.out | apply IsS83.alloc | apply IsS83.drewN | apply IsS83.drew | apply IsS83.set_1) | exact HI265.out)); (case side2 => repeat (first | (with_reducible first | exact HB.out | apply below_alloc | apply pw_below_drewN | apply below_drew1 | refine below_set ?_ (IsS83.ge HI265.out)) | exact HB.out)); rintro e w19 ⟨rfl, hi, hb, hk⟩; refine ⟨_, rfl, ?_⟩; replace HO268 := Aside0.mk (Kd.Q_mono (Kd.Q_keep (IsS83.apartQ (show IsS83 w _ g265 t263 t273 from by repeat (first | (with_reducible first | exact HI265.out | apply IsS83.alloc | apply IsS83.drewN | apply IsS83.drew | apply IsS83.set_1) | exact HI265.out)) (U HO268.out) (by decide)) hk (fun _ h => h.2)) (fun _ h => h.1)); replace HO272 := Aside0.mk (Kd.R_mono (Kd.R_keep (IsS83.apart (show IsS83 w _ g265 t263 t273 from by repeat (first | (with_reducible first | exact HI265.out | apply IsS83.alloc | apply IsS83.drewN | apply IsS83.drew | apply IsS83.set_1) | exact HI265.out)) (U HO272.out) (by decide)) hk (fun _ h => h.2)) (fun _ h => h.1)); replace HB := Aside0.mk (hb); replace HI265 := Aside0.mk (hi); (try clear hb); (try clear hk); (try clear hi)))
    go_ret3
    exact ⟨_, _, _, by first | rfl | (simp [errW_none, errW_some] <;> rfl) | (simp [*, errW_none, errW_some] <;> rfl), Kd.QM HO268.out (fun _ hk => hk.1.1), Kd.R_V (Kd.RM HO272.out (fun _ hk => ⟨hk.1.1, hk.2⟩)), Kd.R_V (Kd.RM HO272.out (fun _ hk => ⟨hk.1.1, hk.2⟩)), by repeat (first | (with_reducible first | exact HB.out | apply below_alloc | apply pw_below_drewN | apply below_drew1 | refine below_set ?_ (IsS83.ge HI265.out)) | exact HB.out)⟩
  rw [if_neg c14] at H; have c14b0 : (t274 == 1) = false := beq_eq_false_iff_ne.mpr c14; have c14b1 : (t274 != 1) = true := bne_iff_ne.mpr c14; obtain ⟨y280, hy280⟩ : ∃ y_ : List Int, y_ = (([] : List Int)) := ⟨_, rfl⟩; replace H : (spec_DrawMoveCarry.l0 k t266 t270 y280 0 t263 t275) = some (r1, r2, r3) := rH hy280 H; have Ny280 := Aside0.mk hy280; clear hy280; have H' := Aside0.mk H; clear H; go_enter Try.func27, Try.ntmps27
  go_wp2_with (first | ((with_reducible refine gate_callee (f := 51) rfl ?_); refine goesK (some 12) Try.func51 #[.slice A0 l0.length c0] ?_; (with_reducible refine (spec_l6Open.calls _ _ l0 t263 t264 w _ ?side1 ?side2 ?side3 A2.out).mono ?_); (case side1 => repeat (first | (with_reducible first | exact HB.out | apply below_alloc | apply pw_below_drewN | apply below_drew1) | exact HB.out | exact Below.refl _ _)); (case side2 => exact HR0.out); (case side3 => exact HC0.out); rintro e w20 ⟨g265, rfl, hi, hb, hb2⟩; refine ⟨_, rfl, ?_⟩; replace HB := Aside0.mk (hb); have HI265 := Aside0.mk (hi); (try clear hb); (try clear hb2); (try clear hi)) | ((with_reducible refine gate_callee (f := 70) rfl ?_); refine goesK (some 14) Try.func70 #[.pointer (some ⟨g265, 0, none⟩)] ?_; (with_reducible refine (spec_l92Small.calls k g265 t263 t264 t266 t269 w _ ?side1 ?side2 A3.out).mono ?_); (case side1 => repeat (first | (with_reducible first | exact HI265.out | apply IsS83.alloc | apply IsS83.drewN | apply IsS83.drew | apply IsS83.set_1) | exact HI265.out)); (case side2 => repeat (first | (with_reducible first | exact HB.out | apply below_alloc | apply pw_below_drewN | apply below_drew1 | refine below_set ?_ (IsS83.ge HI265.out)) | exact HB.out)); rintro e w21 ⟨v267, rfl, ho0, hi, hb, hk⟩; refine ⟨_, rfl, ?_⟩; have HO268 := Aside0.mk (Kd.Q_lower (Kd.Q_newM (M := fun k_ => (w.heap.size ≤ k_)) ho0 (below_size (by repeat (first | (with_reducible first | exact HB.out | apply below_alloc | apply pw_below_drewN | apply below_drew1 | refine below_set ?_ (IsS83.ge HI265.out)) | exact HB.out))) (fun k_ h_ => h_)) (below_size (by repeat (first | (with_reducible first | exact HB.out | apply below_alloc | apply pw_below_drewN | apply below_drew1 | refine below_set ?_ (IsS83.ge HI265.out)) | exact HB.out)))); replace HB := Aside0.mk (hb); replace HI265 := Aside0.mk (hi); (try clear hb); (try clear hk); (try clear hi); (try clear ho0); obtain ⟨Ao22, co22, eo22, _⟩ := Kd.Q_slice HO268.out; subst eo22) | ((with_reducible refine gate_callee (f := 65) rfl ?_); refine goesK (some 17) Try.func65 #[.pointer (some ⟨g265, 0, none⟩), .slice Ao22 t266.length co22, .int .i64 3] ?_; (with_reducible refine (spec_l91Vector.calls k g265 t263 t269 _ _ t266 3 t270 t273 w _ ?side1 ?side2 ?side3 ?side4 ?side5 A4.out).mono ?_); (case side1 => repeat (first | (with_reducible first | exact HI265.out | apply IsS83.alloc | apply IsS83.drewN | apply IsS83.drew | apply IsS83.set_1) | exact HI265.out)); (case side2 => repeat (first | (with_reducible first | exact HB.out | apply below_alloc | apply pw_below_drewN | apply below_drew1 | refine below_set ?_ (IsS83.ge HI265.out)) | exact HB.out)); (case side3 => exact U ((Kd.Q_reads' HO268.out).2.2)); (case side4 => exact (Kd.Q_reads' HO268.out).2.1); (case side5 => exact far_slice (IsS83.own_neQ HI265.out HO268.out (by decide))); rintro e w23 ⟨v271, rfl, ho0, hi, hb, hk⟩; refine ⟨_, rfl, ?_⟩; have HO272 := Aside0.mk (Kd.R_lower (Kd.R_new' (Kd.R_newM (M := fun k_ => (w.heap.size ≤ k_)) ho0 (below_size (by repeat (first | (with_reducible first | exact HB.out | apply below_alloc | apply pw_below_drewN | apply below_drew1 | refine below_set ?_ (IsS83.ge HI265.out)) | exact HB.out))) (fun k_ h_ => h_)) (Kd.Q_lt (U HO268.out))) (below_size (by repeat (first | (with_reducible first | exact HB.out | apply below_alloc | apply pw_below_drewN | apply below_drew1 | refine below_set ?_ (IsS83.ge HI265.out)) | exact HB.out)))); replace HO268 := Aside0.mk (Kd.Q_mono (Kd.Q_told (Kd.Q_oldK (IsS83.apartQ (show IsS83 w _ g265 t263 t269 from by repeat (first | (with_reducible first | exact HI265.out | apply IsS83.alloc | apply IsS83.drewN | apply IsS83.drew | apply IsS83.set_1) | exact HI265.out)) (U HO268.out) (by decide)) hk) (Kd.R_base ho0)) (fun _ h_ => h_.1)); replace HB := Aside0.mk (hb); replace HI265 := Aside0.mk (hi); (try clear hb); (try clear hk); (try clear hi); (try clear ho0)) | ((with_reducible refine gate_callee (f := 71) rfl ?_); refine goesK (some 19) Try.func71 #[.pointer (some ⟨g265, 0, none⟩), .int .i64 4] ?_; (with_reducible refine (spec_l6Rd_pick.calls k g265 t263 t273 4 t274 t275 w _ ?side1 ?side2 A5.out).mono ?_); (case side1 => repeat (first | (with_reducible first | exact HI265.out | apply IsS83.alloc | apply IsS83.drewN | apply IsS83.drew | apply IsS83.set_1) | exact HI265.out)); (case side2 => repeat (first | (with_reducible first | exact HB.out | apply below_alloc | apply pw_below_drewN | apply below_drew1 | refine below_set ?_ (IsS83.ge HI265.out)) | exact HB.out)); rintro e w24 ⟨rfl, hi, hb, hk⟩; refine ⟨_, rfl, ?_⟩; replace HO268 := Aside0.mk (Kd.Q_mono (Kd.Q_keep (IsS83.apartQ (show IsS83 w _ g265 t263 t273 from by repeat (first | (with_reducible first | exact HI265.out | apply IsS83.alloc | apply IsS83.drewN | apply IsS83.drew | apply IsS83.set_1) | exact HI265.out)) (U HO268.out) (by decide)) hk (fun _ h => h.2)) (fun _ h => h.1)); replace HO272 := Aside0.mk (Kd.R_mono (Kd.R_keep (IsS83.apart (show IsS83 w _ g265 t263 t273 from by repeat (first | (with_reducible first | exact HI265.out | apply IsS83.alloc | apply IsS83.drewN | apply IsS83.drew | apply IsS83.set_1) | exact HI265.out)) (U HO272.out) (by decide)) hk (fun _ h => h.2)) (fun _ h => h.1)); replace HB := Aside0.mk (hb); replace HI265 := Aside0.mk (hi); (try clear hb); (try clear hk); (try clear hi)) | ((with_reducible refine gate_dst (N := 32) rfl ?_); refine Kd.R_lit (Kd.int .i64) _ 3 ?hg (N := 32) ?hd (xs := ([] : List Int)) (inner := []) (ok := fun _ => True) (okp := fun _ => True) ?hr ?hp (fun _ hk => hk) trivial (Below.refl _ _) (Nat.le_refl _) (by simp) ?_; (case hd => rfl); (case hg => rfl); (case hr => first | (go_simp; done) | (go_simp; rfl)); (case hp => exact (Reps.none _ _)); intro v281 w25 ho26 hb hg_ hnew_; clear hg_ hnew_; (first | rw [← Ny280.out] at ho26 | (simp only [Int.reduceToNat] at ho26; rw [← Ny280.out] at ho26)); have HO282 := Aside0.mk (Kd.R_lower (Kd.R_new' (Kd.R_new' (Kd.R_newM (M := fun k_ => (w.heap.size ≤ k_)) ho26 (below_size (by repeat (first | (with_reducible first | exact HB.out | apply below_alloc | apply pw_below_drewN | apply below_drew1 | refine below_set ?_ (IsS83.ge HI265.out)) | exact HB.out))) (fun k_ h_ => h_)) (Kd.Q_lt (U HO268.out))) (Kd.R_lt (U HO272.out))) (below_size (by repeat (first | (with_reducible first | exact HB.out | apply below_alloc | apply pw_below_drewN | apply below_drew1 | refine below_set ?_ (IsS83.ge HI265.out)) | exact HB.out)))); replace HO268 := Aside0.mk (Kd.Q_elder' (U HO268.out) (Kd.R_base ho26) hb); replace HO272 := Aside0.mk (Kd.R_elder' (U HO272.out) (Kd.R_base ho26) hb); replace HB := Aside0.mk (below_step (by repeat (first | (with_reducible first | exact HB.out | apply below_alloc | apply pw_below_drewN | apply below_drew1 | refine below_set ?_ (IsS83.ge HI265.out)) | exact HB.out)) hb); replace HI265 := Aside0.mk (IsS83.below (by repeat (first | (with_reducible first | exact HI265.out | apply IsS83.alloc | apply IsS83.drewN | apply IsS83.drew | apply IsS83.set_1) | exact HI265.out)) hb); clear hb ho26))
  go_loopg [8, 9] k (fun kq v8 v9 w' => ∃ (x8_1 : List Int) (x9_1 : Int) (x266001_1 : Int), v9 = .int .i64 x9_1 ∧ Aside0 (spec_DrawMoveCarry.l0 kq t266 t270 x8_1 x9_1 t263 x266001_1 = some (r1, r2, r3)) ∧ Aside0 (kq ≤ k) ∧ Aside0 (Kd.Q (Kd.int .i64) 3 w' w.heap.size (fun k_ => (w.heap.size ≤ k_) ∧ some k_ ≠ (v271 : Value).ownBlock ∧ some k_ ≠ (v8 : Value).ownBlock) (.slice Ao22 t266.length co22) t266) ∧ Aside0 (Kd.R (Kd.int .i64) 3 w' w.heap.size (fun k_ => (w.heap.size ≤ k_) ∧ some k_ ≠ ((.slice Ao22 t266.length co22) : Value).ownBlock ∧ some k_ ≠ (v8 : Value).ownBlock) v271 t270) ∧ Aside0 (Kd.R (Kd.int .i64) 3 w' w.heap.size (fun k_ => (w.heap.size ≤ k_) ∧ some k_ ≠ ((.slice Ao22 t266.length co22) : Value).ownBlock ∧ some k_ ≠ (v271 : Value).ownBlock) v8 x8_1) ∧ Aside0 (IsS83 w w' g265 t263 x266001_1) ∧ Aside0 (Below w.heap.size w w'))
  case atStart => exact ⟨(y280), (0), (t275), sR, H', ⟨Nat.le_refl _⟩, ⟨Kd.QM HO268.out (fun _ hk => ⟨hk.1.1.1, ⟨hk.1.2, hk.2⟩⟩)⟩, ⟨Kd.RM HO272.out (fun _ hk => ⟨hk.1.1.1, ⟨hk.1.2, hk.2⟩⟩)⟩, ⟨Kd.RM HO282.out (fun _ hk => ⟨hk.1.1.1, ⟨hk.1.2, hk.2⟩⟩)⟩, ⟨by repeat (first | (with_reducible first | exact HI265.out | apply IsS83.alloc | apply IsS83.drewN | apply IsS83.drew | apply IsS83.set_1) | exact HI265.out)⟩, ⟨by repeat (first | (with_reducible first | exact HB.out | apply below_alloc | apply pw_below_drewN | apply below_drew1 | refine below_set ?_ (IsS83.ge HI265.out)) | exact HB.out)⟩⟩
  case round =>
    clear H'; (try clear c6); (try clear c6b0); (try clear c6b1); (try clear c14); (try clear c14b0); (try clear c14b1); obtain ⟨x8_1, x9_1, x266001_1, rfl, HA, HK1, HO_6, HO_7, HO_8, HI265, HB⟩ := hrel; cases gk with
    | zero => exact absurd HA.out (by simp [spec_DrawMoveCarry.l0])
    | succ k1 =>
      have H := HA.out; clear HA; simp only [spec_DrawMoveCarry.l0] at H
      by_cases c27 : x9_1 < (t270.length : Int)
      · rw [if_pos c27] at H
        have c27b0 : decide (x9_1 < (t270.length : Int)) = true := decide_eq_true c27; clear c27; obtain ⟨c28, H⟩ := ifN H; have c28b0 : decide (0 ≤ x9_1) = true := decide_eq_true c28; clear c28; obtain ⟨⟨t284, t285⟩, A29, H⟩ := bnd H; replace H : (if x8_1.length < 17592186044416 then (spec_DrawMoveCarry.l0 k1 t266 t270 (x8_1 ++ [wrap64 ((rd t270 x9_1) * (wrap64 (1 - (wrap64 (2 * t284)))))]) (wrap64 (x9_1 + 1)) t263 t285) else (none)) = some (r1, r2, r3) := H; obtain ⟨c30, H⟩ := ifN H; have LMc30 := Aside0.mk c30; clear c30; obtain ⟨y286, hy286⟩ : ∃ y_ : List Int, y_ = (x8_1 ++ [wrap64 ((rd t270 x9_1) * (wrap64 (1 - (wrap64 (2 * t284)))))]) := ⟨_, rfl⟩; replace H : (spec_DrawMoveCarry.l0 k1 t266 t270 y286 (wrap64 (x9_1 + 1)) t263 t285) = some (r1, r2, r3) := rH hy286 H; have Ny286 := Aside0.mk hy286; clear hy286; have H' := Aside0.mk H; clear H; obtain ⟨Ao31, co31, eo31⟩ := Kd.R_slice HO_7.out; subst eo31
        try go_wp2
        replace HO_6 := Aside0.mk (Kd.Q_drew HO_6.out); replace HO_7 := Aside0.mk (Kd.R_drew HO_7.out); replace HO_8 := Aside0.mk (Kd.R_drew HO_8.out); replace HI265 := Aside0.mk (IsS83.drew HI265.out); replace HB := Aside0.mk (below_drew1 HB.out); have p283 : 0 ≤ (x9_1 : Int) := oD; have q283 : x9_1 < (t270.length : Int) := oD; obtain ⟨ad283, e283, hx283_0⟩ := Kd.at_int (Kd.R_reads' HO_7.out).2.2 x9_1 p283 q283; cases e283; replace p283 := eq_true p283; replace q283 := eq_true q283
        refine start_ (n := 13) (S := fun w' => w'.cell? (ad283.add (x9_1).toNat) = some (.int .i64 (rd t270 x9_1))) (ds := [10, 11]) #[false, false, false, false, false, false, false, false, false, false, false, false, false] (by kernel_rfl) rfl rfl (hx283_0) (fun hHeld => ?_); refine with_tabW spec_DrawMoveCarry.tab13 spec_DrawMoveCarry.bits13 (fun HT_ HW_ => ?_)
        generalize wr.drew = w32 at HO_6 HO_7 HO_8 HI265 HB hx283_0 hHeld ⊢
        refine pure_ (i := 0) (N := some 39) (v := ?_) (a' := ?_) #[true, false, false, false, false, false, false, false, false, false, false, false, false] rfl rfl (any_of HT_.out (by kernel_rfl)) (fun _ _ _ h => h) (Or.inl ⟨by rfl, ?_⟩) ?_ ?_
        rotate_left
        · intro w'
          go_simp
          with_reducible rfl
        rotate_left
        · simp only [Act.put, List.setIfInBounds_toArray, List.set_cons_zero, List.set_cons_succ, i64_w, i32_w]
          rfl
        refine pure_ (i := 1) (N := some 40) (v := ?_) (a' := ?_) #[true, true, false, false, false, false, false, false, false, false, false, false, false] rfl rfl (any_of HT_.out (by kernel_rfl)) (fun _ _ _ h => h) (Or.inl ⟨by rfl, ?_⟩) ?_ ?_
        rotate_left
        · intro w'
          go_simp
          with_reducible rfl
        rotate_left
        · simp only [Act.put, List.setIfInBounds_toArray, List.set_cons_zero, List.set_cons_succ, i64_w, i32_w]
          rfl
        refine pure_ (i := 2) (N := some 41) (v := ?_) (a' := ?_) #[true, true, true, false, false, false, false, false, false, false, false, false, false] rfl rfl (any_of HT_.out (by kernel_rfl)) (fun _ _ _ h => h) (Or.inl ⟨by rfl, ?_⟩) ?_ ?_
        rotate_left
        · intro w'
          go_simp
          with_reducible rfl
        rotate_left
        · simp only [Act.put, List.setIfInBounds_toArray, List.set_cons_zero, List.set_cons_succ, i64_w, i32_w]
          rfl
        refine pure_ (i := 3) (N := some 42) (v := ?_) (a' := ?_) #[true, true, true, true, false, false, false, false, false, false, false, false, false] rfl rfl (any_of HT_.out (by kernel_rfl)) (fun _ _ _ h => h) (Or.inl ⟨by rfl, ?_⟩) ?_ ?_
        rotate_left
        · intro w'
          go_simp
          with_reducible rfl
        rotate_left
        · simp only [Act.put, List.setIfInBounds_toArray, List.set_cons_zero, List.set_cons_succ, i64_w, i32_w]
          rfl
        refine pure_ (i := 5) (N := some 44) (v := ?_) (a' := ?_) #[true, true, true, true, false, true, false, false, false, false, false, false, false] rfl rfl (any_of HT_.out (by kernel_rfl)) (fun _ _ _ h => h) (Or.inl ⟨by rfl, ?_⟩) ?_ ?_
        rotate_left
        · intro w'
          go_simp
          with_reducible rfl
        rotate_left
        · simp only [Act.put, List.setIfInBounds_toArray, List.set_cons_zero, List.set_cons_succ, i64_w, i32_w]
          rfl
        refine take_ (i := 4) (N := some 43) (v := ?_) (a' := ?_) #[true, true, true, true, true, true, false, false, false, false, false, false, false] rfl rfl (take_ofW HT_.out HW_.out (by kernel_rfl)) (fun _ _ _ h => h) (Or.inl ⟨by rfl, ?_⟩) hHeld ?_ ?_
        rotate_left
        · intro w' s0
          go_simp
          with_reducible rfl
        rotate_left
        · simp only [Act.put, List.setIfInBounds_toArray, List.set_cons_zero, List.set_cons_succ, i64_w, i32_w]
          rfl
        refine one_ (i := 6) (N := some 45) #[true, true, true, true, true, true, true, false, false, false, false, false, false] rfl rfl (one_of HT_.out (by kernel_rfl)) (by decide) (fun K hK => ?_)
        refine goes_ Try.func71 (by kernel_rfl) rfl #[.pointer (some ⟨g265, 0, none⟩), .int .i64 2] (by rfl) rfl rfl (by (try simp only [List.map_toArray, List.map_cons, List.map_nil]); first | done | rfl | (simp only [List.length_drop, List.length_take]; rfl)) ?_
        with_reducible refine (spec_l6Rd_pick.calls k1 g265 t263 x266001_1 2 t284 t285 w _ ?side1 ?side2 A29.out).mono ?_
        (case side1 => repeat (first | (with_reducible first | exact HI265.out | apply IsS83.alloc | apply IsS83.drewN | apply IsS83.drew | apply IsS83.set_1) | exact HI265.out))
        (case side2 => repeat (first | (with_reducible first | exact HB.out | apply below_alloc | apply pw_below_drewN | apply below_drew1 | refine below_set ?_ (IsS83.ge HI265.out)) | exact HB.out))
        rintro e w33 ⟨rfl, hi, hb, hk⟩; have HS0_ := keep_cell hk (hHeld) (by first | (rw [add_block]; exact Kd.own_blk (IsS83.own_ne HI265.out HO_7.out (by decide))) | (show (Addr.add _ _).block ≠ _; rw [add_block]; exact Kd.own_blk (IsS83.own_ne HI265.out HO_7.out (by decide))) | exact Kd.own_blk (IsS83.own_ne HI265.out HO_7.out (by decide)))
        refine ⟨_, rfl, ?_⟩
        replace HO_6 := Aside0.mk (Kd.Q_mono (Kd.Q_keep (IsS83.apartQ (show IsS83 w _ g265 t263 x266001_1 from by repeat (first | (with_reducible first | exact HI265.out | apply IsS83.alloc | apply IsS83.drewN | apply IsS83.drew | apply IsS83.set_1) | exact HI265.out)) (U HO_6.out) (by decide)) hk (fun _ h => h.2)) (fun _ h => h.1)); replace HO_7 := Aside0.mk (Kd.R_mono (Kd.R_keep (IsS83.apart (show IsS83 w _ g265 t263 x266001_1 from by repeat (first | (with_reducible first | exact HI265.out | apply IsS83.alloc | apply IsS83.drewN | apply IsS83.drew | apply IsS83.set_1) | exact HI265.out)) (U HO_7.out) (by decide)) hk (fun _ h => h.2)) (fun _ h => h.1)); replace HO_8 := Aside0.mk (Kd.R_mono (Kd.R_keep (IsS83.apart (show IsS83 w _ g265 t263 x266001_1 from by repeat (first | (with_reducible first | exact HI265.out | apply IsS83.alloc | apply IsS83.drewN | apply IsS83.drew | apply IsS83.set_1) | exact HI265.out)) (U HO_8.out) (by decide)) hk (fun _ h => h.2)) (fun _ h => h.1)); replace HB := Aside0.mk (hb); replace HI265 := Aside0.mk (hi); (try clear hb); (try clear hb2); (try clear hk); (try clear hi)
        refine hK.out _ _ (HS0_) (fun hHeld => ?_)
        clear hK K
        refine norm_ (a' := ?_) ?_ ?_
        rotate_left
        · show Act.put _ (some 45) _ = _
          simp only [Act.put, List.setIfInBounds_toArray, List.set_cons_zero, List.set_cons_succ, i64_w, i32_w]
          rfl
        refine pure_ (i := 7) (N := some 46) (v := ?_) (a' := ?_) #[true, true, true, true, true, true, true, true, false, false, false, false, false] rfl rfl (any_of HT_.out (by kernel_rfl)) (fun _ _ _ h => h) (Or.inl ⟨by rfl, ?_⟩) ?_ ?_
        rotate_left
        · intro w'
          go_simp
          with_reducible rfl
        rotate_left
        · simp only [Act.put, List.setIfInBounds_toArray, List.set_cons_zero, List.set_cons_succ, i64_w, i32_w]
          rfl
        refine pure_ (i := 8) (N := some 47) (v := ?_) (a' := ?_) #[true, true, true, true, true, true, true, true, true, false, false, false, false] rfl rfl (any_of HT_.out (by kernel_rfl)) (fun _ _ _ h => h) (Or.inl ⟨by rfl, ?_⟩) ?_ ?_
        rotate_left
        · intro w'
          go_simp
          with_reducible rfl
        rotate_left
        · simp only [Act.put, List.setIfInBounds_toArray, List.set_cons_zero, List.set_cons_succ, i64_w, i32_w]
          rfl
        refine pure_ (i := 9) (N := some 48) (v := ?_) (a' := ?_) #[true, true, true, true, true, true, true, true, true, true, false, false, false] rfl rfl (any_of HT_.out (by kernel_rfl)) (fun _ _ _ h => h) (Or.inl ⟨by rfl, ?_⟩) ?_ ?_
        rotate_left
        · intro w'
          go_simp
          with_reducible rfl
        rotate_left
        · simp only [Act.put, List.setIfInBounds_toArray, List.set_cons_zero, List.set_cons_succ, i64_w, i32_w]
          rfl
        refine last_ (i := 10) (N := some 49) #[true, true, true, true, true, true, true, true, true, true, true, false, false] rfl rfl (one_of HT_.out (by kernel_rfl)) (by decide) (fun K hK => ?_)
        refine value_ (w1 := ?_) (v := ?_) (by rfl) rfl ?_ ?_
        rotate_left 2
        · go_simp
          constructor
          · rfl
          rfl
        refine hK.out _ _ ?_
        clear hK K
        refine norm_ (a' := ?_) ?_ ?_
        rotate_left
        · show Act.put _ (some 49) _ = _
          simp only [Act.put, List.setIfInBounds_toArray, List.set_cons_zero, List.set_cons_succ, i64_w, i32_w]
          rfl
        refine last_ (i := 11) (N := some 50) #[true, true, true, true, true, true, true, true, true, true, true, true, false] rfl rfl (one_of HT_.out (by kernel_rfl)) (by decide) (fun K hK => ?_)
        refine Kd.R_append_step (Kd.int .i64) (w0 := w) w.heap.size (by rfl) (.tmp 39) (.tmp 49) 23 3 (.int .i64 0) 8 rfl Try.underlying23 info3 rfl (by decide) (by omega) u8 x8_1 (wrap64 ((rd t270 x9_1) * (wrap64 (1 - (wrap64 (2 * t284)))))) [.int .i64 (wrap64 ((rd t270 x9_1) * (wrap64 (1 - (wrap64 (2 * t284))))))] (fun k_ => (w.heap.size ≤ k_) ∧ some k_ ≠ (.slice Ao22 t266.length co22 : Value).ownBlock ∧ some k_ ≠ (.slice (some ad283) t270.length co31 : Value).ownBlock) (fun _ => False) rfl rfl ?aP (fun _ hk => hk.elim) ?aF ?aO ?aB ?aS ?aL ?_
        (case aP => exact rfl)
        (case aB => exact (by repeat (first | (with_reducible first | exact HB.out | apply below_alloc | apply pw_below_drewN | apply below_drew1 | refine below_set ?_ (IsS83.ge HI265.out)) | exact HB.out)))
        (case aF => exact (fun k_ hk => ⟨(Nat.le_trans (below_size (by repeat (first | (with_reducible first | exact HB.out | apply below_alloc | apply pw_below_drewN | apply below_drew1 | refine below_set ?_ (IsS83.ge HI265.out)) | exact HB.out))) hk), Kd.fresh' (Kd.Q_lt (U HO_6.out)) k_ hk, Kd.fresh' (Kd.R_lt (U HO_7.out)) k_ hk⟩))
        (case aO => exact (U HO_8.out))
        (case aS => exact (below_size (by repeat (first | (with_reducible first | exact HB.out | apply below_alloc | apply pw_below_drewN | apply below_drew1 | refine below_set ?_ (IsS83.ge HI265.out)) | exact HB.out))))
        (case aL => have := LMc30.out; omega)
        intro v287 w34 ho hb hg hat; rw [← Ny286.out] at ho; have n0_ := Aside0.mk (Kd.Q_after (ok := (fun k_ => (w.heap.size ≤ k_) ∧ some k_ ≠ (.slice (some ad283) t270.length co31 : Value).ownBlock)) (Kd.QM HO_6.out (fun _ hk => ⟨⟨hk.1, hk.2.1⟩, hk.2.2⟩)) hg hat); have n1_ := Aside0.mk (Kd.R_after (ok := (fun k_ => (w.heap.size ≤ k_) ∧ some k_ ≠ (.slice Ao22 t266.length co22 : Value).ownBlock)) (Kd.RM HO_7.out (fun _ hk => ⟨⟨hk.1, hk.2.1⟩, hk.2.2⟩)) hg hat); have n2_ := Aside0.mk (IsS83.grown (by repeat (first | (with_reducible first | exact HI265.out | apply IsS83.alloc | apply IsS83.drewN | apply IsS83.drew | apply IsS83.set_1) | exact HI265.out)) hg (IsS83.own_ne HI265.out HO_8.out (by decide))); have n3_ := Aside0.mk (hb); have n4_ := Aside0.mk (ho); clear HO_6 HO_7 HI265; (try clear HB); clear HO_8; have HO_6 := n0_; have HO_7 := n1_; have HI265 := n2_; have HB := n3_; have HO288 := n4_; clear n0_ n1_ n2_ n3_ n4_ ho hb hg hat
        refine hK.out _ _ ?_
        clear hK K
        refine norm_ (a' := ?_) ?_ ?_
        rotate_left
        · show Act.put _ (some 50) _ = _
          simp only [Act.put, List.setIfInBounds_toArray, List.set_cons_zero, List.set_cons_succ, i64_w, i32_w]
          rfl
        refine pure_ (i := 12) (N := some 8) (v := ?_) (a' := ?_) #[true, true, true, true, true, true, true, true, true, true, true, true, true] rfl rfl (any_of HT_.out (by kernel_rfl)) (fun _ _ _ h => h) (Or.inl ⟨by rfl, ?_⟩) ?_ ?_
        rotate_left
        · intro w'
          go_simp
          with_reducible rfl
        rotate_left
        · simp only [Act.put, List.setIfInBounds_toArray, List.set_cons_zero, List.set_cons_succ, i64_w, i32_w]
          rfl
        refine done_ (done_of HT_.out (by kernel_rfl)) ?_
        try go_wp2
        go_roundg k1
        case measure => have := HK1.out; omega
        case rel => exact ⟨(y286), (wrap64 (x9_1 + 1)), (t285), sR, H', ⟨by have := HK1.out; omega⟩, ⟨Kd.QM HO_6.out (fun _ hk => ⟨hk.1.1, ⟨hk.1.2, hk.2⟩⟩)⟩, ⟨Kd.RM HO_7.out (fun _ hk => ⟨hk.1.1, ⟨hk.1.2, hk.2⟩⟩)⟩, ⟨U HO288.out⟩, ⟨by repeat (first | (with_reducible first | exact HI265.out | apply IsS83.alloc | apply IsS83.drewN | apply IsS83.drew | apply IsS83.set_1) | exact HI265.out)⟩, ⟨by repeat (first | (with_reducible first | exact HB.out | apply below_alloc | apply pw_below_drewN | apply below_drew1 | refine below_set ?_ (IsS83.ge HI265.out)) | exact HB.out)⟩⟩
      rw [if_neg c27] at H; have c27b0 : decide (x9_1 < (t270.length : Int)) = false := decide_eq_false c27; clear c27
      by_cases c35 : (t266.length : Int) = 3
      · rw [if_pos c35] at H
        have c35b0 : ((t266.length : Int) == 3) = true := beq_iff_eq.mpr c35; have c35b1 : ((t266.length : Int) != 3) = false := bne_eq_false_iff_eq.mpr c35; clear c35; obtain ⟨c36, H⟩ := ifN H; have c36b0 : decide (0 < (t266.length : Int)) = true := decide_eq_true c36; have c36b1 : decide (0 < t266.length) = true := decide_eq_true (by omega); clear c36; obtain ⟨c37, H⟩ := ifN H; have c37b0 : decide (1 < (t266.length : Int)) = true := decide_eq_true c37; have c37b1 : decide (1 < t266.length) = true := decide_eq_true (by omega); clear c37
        by_cases c38 : (rd t266 0) = (rd t266 1)
        · rw [if_pos c38] at H
          have c38b0 : ((rd t266 0) == (rd t266 1)) = true := beq_iff_eq.mpr c38; have c38b1 : ((rd t266 0) != (rd t266 1)) = false := bne_eq_false_iff_eq.mpr c38; clear c38; obtain ⟨⟨t291, t292⟩, A39, H⟩ := bnd H; replace H : (if t291 = 0 then (if 0 < (x8_1.length : Int) then (if 1 < (x8_1.length : Int) then (some (t266, t270, ((x8_1.set (0 : Int).toNat (rd x8_1 1)).set (1 : Int).toNat (rd x8_1 0)))) else (none)) else (none)) else (some (t266, t270, x8_1))) = some (r1, r2, r3) := H
          by_cases c40 : t291 = 0
          · rw [if_pos c40] at H
            have c40b0 : (t291 == 0) = true := beq_iff_eq.mpr c40; have c40b1 : (t291 != 0) = false := bne_eq_false_iff_eq.mpr c40; clear c40; obtain ⟨c41, H⟩ := ifN H; have c41b0 : decide (0 < (x8_1.length : Int)) = true := decide_eq_true c41; have c41b1 : decide (0 < x8_1.length) = true := decide_eq_true (by omega); clear c41; obtain ⟨c42, H⟩ := ifN H; have c42b0 : decide (1 < (x8_1.length : Int)) = true := decide_eq_true c42; have c42b1 : decide (1 < x8_1.length) = true := decide_eq_true (by omega); clear c42; obtain ⟨y295, hy295⟩ : ∃ y_ : List Int, y_ = (x8_1.set (0 : Int).toNat (rd x8_1 1)) := ⟨_, rfl⟩; replace H : (some (t266, t270, (y295.set (1 : Int).toNat (rd x8_1 0)))) = some (r1, r2, r3) := rH hy295 H; have Ny295 := Aside0.mk hy295; clear hy295; obtain ⟨y296, hy296⟩ : ∃ y_ : List Int, y_ = (y295.set (1 : Int).toNat (rd x8_1 0)) := ⟨_, rfl⟩; replace H : (some (t266, t270, y296)) = some (r1, r2, r3) := rH hy296 H; have Ny296 := Aside0.mk hy296; clear hy296; simp only [Option.some.injEq, Prod.mk.injEq] at H; obtain ⟨rfl, rfl, rfl⟩ := H; obtain ⟨Ao45, co45, eo45⟩ := Kd.R_slice HO_7.out; subst eo45
            try go_wp2
            replace HO_6 := Aside0.mk (Kd.Q_drew HO_6.out); replace HO_7 := Aside0.mk (Kd.R_drew HO_7.out); replace HO_8 := Aside0.mk (Kd.R_drew HO_8.out); replace HI265 := Aside0.mk (IsS83.drew HI265.out); replace HB := Aside0.mk (below_drew1 HB.out); have p289 : 0 ≤ (0 : Int) := (by omega); have q289 : 0 < (t266.length : Int) := oD; obtain ⟨ad289, e289, hx289_0⟩ := Kd.at_int (Kd.Q_reads' HO_6.out).2.2 0 p289 q289; cases e289; have qi289 : (0 < t266.length) = True := eq_true (by omega)
            (try rw [show ((0 : Int)).toNat = 0 from rfl] at hx289_0)
            (try rw [Addr.add_zero'] at hx289_0)
            replace p289 := eq_true p289; replace q289 := eq_true q289; have p290 : 0 ≤ (1 : Int) := (by omega); have q290 : 1 < (t266.length : Int) := oD; obtain ⟨ad290, e290, hx290_0⟩ := Kd.at_int (Kd.Q_reads' HO_6.out).2.2 1 p290 q290; obtain rfl : ad289 = ad290 := (by injection e290)
            (try simp only [show (1 : Int).toNat = 1 from rfl, Nat.reduceMul, Nat.reduceEqDiff, Go.Addr.add, ↓reduceIte] at hx290_0)
            have qi290 : (1 < t266.length) = True := eq_true (by omega)
            (try rw [show ((1 : Int)).toNat = 1 from rfl] at hx290_0)
            replace p290 := eq_true p290; replace q290 := eq_true q290
            refine start_ (n := 17) (S := fun w' => w'.cell? ad289 = some (.int .i64 (rd t266 0)) ∧ w'.cell? ⟨ad289.block, ad289.off + 1, none⟩ = some (.int .i64 (rd t266 1))) (ds := []) #[false, false, false, false, false, false, false, false, false, false, false, false, false, false, false, false, false] (by kernel_rfl) rfl rfl ⟨hx289_0, hx290_0⟩ (fun hHeld => ?_); refine with_tabW spec_DrawMoveCarry.tab14 spec_DrawMoveCarry.bits14 (fun HT_ HW_ => ?_)
            generalize wr.drew = w46 at HO_6 HO_7 HO_8 HI265 HB hx289_0 hx290_0 hHeld ⊢
            refine pure_ (i := 0) (N := some 51) (v := ?_) (a' := ?_) #[true, false, false, false, false, false, false, false, false, false, false, false, false, false, false, false, false] rfl rfl (any_of HT_.out (by kernel_rfl)) (fun _ _ _ h => h) (Or.inl ⟨by rfl, ?_⟩) ?_ ?_
            rotate_left
            · intro w'
              go_simp
              with_reducible rfl
            rotate_left
            · simp only [Act.put, List.setIfInBounds_toArray, List.set_cons_zero, List.set_cons_succ, i64_w, i32_w]
              rfl
            refine pure_ (i := 1) (N := some 52) (v := ?_) (a' := ?_) #[true, true, false, false, false, false, false, false, false, false, false, false, false, false, false, false, false] rfl rfl (any_of HT_.out (by kernel_rfl)) (fun _ _ _ h => h) (Or.inl ⟨by rfl, ?_⟩) ?_ ?_
            rotate_left
            · intro w'
              go_simp
              with_reducible rfl
            rotate_left
            · simp only [Act.put, List.setIfInBounds_toArray, List.set_cons_zero, List.set_cons_succ, i64_w, i32_w]
              rfl
            refine pure_ (i := 2) (N := some 53) (v := ?_) (a' := ?_) #[true, true, true, false, false, false, false, false, false, false, false, false, false, false, false, false, false] rfl rfl (any_of HT_.out (by kernel_rfl)) (fun _ _ _ h => h) (Or.inl ⟨by rfl, ?_⟩) ?_ ?_
            rotate_left
            · intro w'
              go_simp
              with_reducible rfl
            rotate_left
            · simp only [Act.put, List.setIfInBounds_toArray, List.set_cons_zero, List.set_cons_succ, i64_w, i32_w]
              rfl
            refine pure_ (i := 3) (N := some 54) (v := ?_) (a' := ?_) #[true, true, true, true, false, false, false, false, false, false, false, false, false, false, false, false, false] rfl rfl (any_of HT_.out (by kernel_rfl)) (fun _ _ _ h => h) (Or.inl ⟨by rfl, ?_⟩) ?_ ?_
            rotate_left
            · intro w'
              go_simp
              with_reducible rfl
            rotate_left
            · simp only [Act.put, List.setIfInBounds_toArray, List.set_cons_zero, List.set_cons_succ, i64_w, i32_w]
              rfl
            refine pure_ (i := 4) (N := some 55) (v := ?_) (a' := ?_) #[true, true, true, true, true, false, false, false, false, false, false, false, false, false, false, false, false] rfl rfl (any_of HT_.out (by kernel_rfl)) (fun _ _ _ h => h) (Or.inl ⟨by rfl, ?_⟩) ?_ ?_
            rotate_left
            · intro w'
              go_simp
              with_reducible rfl
            rotate_left
            · simp only [Act.put, List.setIfInBounds_toArray, List.set_cons_zero, List.set_cons_succ, i64_w, i32_w]
              rfl
            refine pure_ (i := 5) (N := some 56) (v := ?_) (a' := ?_) #[true, true, true, true, true, true, false, false, false, false, false, false, false, false, false, false, false] rfl rfl (any_of HT_.out (by kernel_rfl)) (fun _ _ _ h => h) (Or.inl ⟨by rfl, ?_⟩) ?_ ?_
            rotate_left
            · intro w'
              go_simp
              with_reducible rfl
            rotate_left
            · simp only [Act.put, List.setIfInBounds_toArray, List.set_cons_zero, List.set_cons_succ, i64_w, i32_w]
              rfl
            refine pure_ (i := 7) (N := some 58) (v := ?_) (a' := ?_) #[true, true, true, true, true, true, false, true, false, false, false, false, false, false, false, false, false] rfl rfl (any_of HT_.out (by kernel_rfl)) (fun _ _ _ h => h) (Or.inl ⟨by rfl, ?_⟩) ?_ ?_
            rotate_left
            · intro w'
              go_simp
              with_reducible rfl
            rotate_left
            · simp only [Act.put, List.setIfInBounds_toArray, List.set_cons_zero, List.set_cons_succ, i64_w, i32_w]
              rfl
            refine pure_ (i := 8) (N := some 59) (v := ?_) (a' := ?_) #[true, true, true, true, true, true, false, true, true, false, false, false, false, false, false, false, false] rfl rfl (any_of HT_.out (by kernel_rfl)) (fun _ _ _ h => h) (Or.inl ⟨by rfl, ?_⟩) ?_ ?_
            rotate_left
            · intro w'
              go_simp
              with_reducible rfl
            rotate_left
            · simp only [Act.put, List.setIfInBounds_toArray, List.set_cons_zero, List.set_cons_succ, i64_w, i32_w]
              rfl
            refine take_ (i := 6) (N := some 57) (v := ?_) (a' := ?_) #[true, true, true, true, true, true, true, true, true, false, false, false, false, false, false, false, false] rfl rfl (take_ofW HT_.out HW_.out (by kernel_rfl)) (fun _ _ _ h => h) (Or.inl ⟨by rfl, ?_⟩) hHeld ?_ ?_
            rotate_left
            · rintro w' ⟨s0, s1⟩
              go_simp
              with_reducible rfl
            rotate_left
            · simp only [Act.put, List.setIfInBounds_toArray, List.set_cons_zero, List.set_cons_succ, i64_w, i32_w]
              rfl
            refine take_ (i := 9) (N := some 60) (v := ?_) (a' := ?_) #[true, true, true, true, true, true, true, true, true, true, false, false, false, false, false, false, false] rfl rfl (take_ofW HT_.out HW_.out (by kernel_rfl)) (fun _ _ _ h => h) (Or.inl ⟨by rfl, ?_⟩) hHeld ?_ ?_
            rotate_left
            · rintro w' ⟨s0, s1⟩
              go_simp
              with_reducible rfl
            rotate_left
            · simp only [Act.put, List.setIfInBounds_toArray, List.set_cons_zero, List.set_cons_succ, i64_w, i32_w]
              rfl
            refine pure_ (i := 10) (N := some 61) (v := ?_) (a' := ?_) #[true, true, true, true, true, true, true, true, true, true, true, false, false, false, false, false, false] rfl rfl (any_of HT_.out (by kernel_rfl)) (fun _ _ _ h => h) (Or.inl ⟨by rfl, ?_⟩) ?_ ?_
            rotate_left
            · intro w'
              go_simp
              with_reducible rfl
            rotate_left
            · simp only [Act.put, List.setIfInBounds_toArray, List.set_cons_zero, List.set_cons_succ, i64_w, i32_w]
              rfl
            refine pure_ (i := 11) (N := some 62) (v := ?_) (a' := ?_) #[true, true, true, true, true, true, true, true, true, true, true, true, false, false, false, false, false] rfl rfl (any_of HT_.out (by kernel_rfl)) (fun _ _ _ h => h) (Or.inl ⟨by rfl, ?_⟩) ?_ ?_
            rotate_left
            · intro w'
              go_simp
              with_reducible rfl
            rotate_left
            · simp only [Act.put, List.setIfInBounds_toArray, List.set_cons_zero, List.set_cons_succ, i64_w, i32_w]
              rfl
            refine pure_ (i := 12) (N := some 63) (v := ?_) (a' := ?_) #[true, true, true, true, true, true, true, true, true, true, true, true, true, false, false, false, false] rfl rfl (any_of HT_.out (by kernel_rfl)) (fun _ _ _ h => h) (Or.inl ⟨by rfl, ?_⟩) ?_ ?_
            rotate_left
            · intro w'
              go_simp
              with_reducible rfl
            rotate_left
            · simp only [Act.put, List.setIfInBounds_toArray, List.set_cons_zero, List.set_cons_succ, i64_w, i32_w]
              rfl
            refine pure_ (i := 13) (N := some 64) (v := ?_) (a' := ?_) #[true, true, true, true, true, true, true, true, true, true, true, true, true, true, false, false, false] rfl rfl (any_of HT_.out (by kernel_rfl)) (fun _ _ _ h => h) (Or.inl ⟨by rfl, ?_⟩) ?_ ?_
            rotate_left
            · intro w'
              go_simp
              with_reducible rfl
            rotate_left
            · simp only [Act.put, List.setIfInBounds_toArray, List.set_cons_zero, List.set_cons_succ, i64_w, i32_w]
              rfl
            refine one_ (i := 14) (N := some 65) #[true, true, true, true, true, true, true, true, true, true, true, true, true, true, true, false, false] rfl rfl (one_of HT_.out (by kernel_rfl)) (by decide) (fun K hK => ?_)
            refine goes_ Try.func71 (by kernel_rfl) rfl #[.pointer (some ⟨g265, 0, none⟩), .int .i64 2] (by rfl) rfl rfl (by (try simp only [List.map_toArray, List.map_cons, List.map_nil]); first | done | rfl | (simp only [List.length_drop, List.length_take]; rfl)) ?_
            with_reducible refine (spec_l6Rd_pick.calls k1 g265 t263 x266001_1 2 t291 t292 w _ ?side1 ?side2 A39.out).mono ?_
            (case side1 => repeat (first | (with_reducible first | exact HI265.out | apply IsS83.alloc | apply IsS83.drewN | apply IsS83.drew | apply IsS83.set_1) | exact HI265.out))
            (case side2 => repeat (first | (with_reducible first | exact HB.out | apply below_alloc | apply pw_below_drewN | apply below_drew1 | refine below_set ?_ (IsS83.ge HI265.out)) | exact HB.out))
            rintro e w47 ⟨rfl, hi, hb, hk⟩; have HS0_ := keep_cell hk (hHeld.1) (by first | (rw [add_block]; exact Kd.own_blk (IsS83.own_neQ HI265.out HO_6.out (by decide))) | (show (Addr.add _ _).block ≠ _; rw [add_block]; exact Kd.own_blk (IsS83.own_neQ HI265.out HO_6.out (by decide))) | (have hh_ := IsS83.own_neQ HI265.out HO_6.out (by decide); exact (Kd.own_blk hh_ :))); have HS1_ := keep_cell hk (hHeld.2) (by first | (rw [add_block]; exact Kd.own_blk (IsS83.own_neQ HI265.out HO_6.out (by decide))) | (show (Addr.add _ _).block ≠ _; rw [add_block]; exact Kd.own_blk (IsS83.own_neQ HI265.out HO_6.out (by decide))) | (have hh_ := IsS83.own_neQ HI265.out HO_6.out (by decide); exact (Kd.own_blk hh_ :)))
            refine ⟨_, rfl, ?_⟩
            replace HO_6 := Aside0.mk (Kd.Q_mono (Kd.Q_keep (IsS83.apartQ (show IsS83 w _ g265 t263 x266001_1 from by repeat (first | (with_reducible first | exact HI265.out | apply IsS83.alloc | apply IsS83.drewN | apply IsS83.drew | apply IsS83.set_1) | exact HI265.out)) (U HO_6.out) (by decide)) hk (fun _ h => h.2)) (fun _ h => h.1)); replace HO_7 := Aside0.mk (Kd.R_mono (Kd.R_keep (IsS83.apart (show IsS83 w _ g265 t263 x266001_1 from by repeat (first | (with_reducible first | exact HI265.out | apply IsS83.alloc | apply IsS83.drewN | apply IsS83.drew | apply IsS83.set_1) | exact HI265.out)) (U HO_7.out) (by decide)) hk (fun _ h => h.2)) (fun _ h => h.1)); replace HO_8 := Aside0.mk (Kd.R_mono (Kd.R_keep (IsS83.apart (show IsS83 w _ g265 t263 x266001_1 from by repeat (first | (with_reducible first | exact HI265.out | apply IsS83.alloc | apply IsS83.drewN | apply IsS83.drew | apply IsS83.set_1) | exact HI265.out)) (U HO_8.out) (by decide)) hk (fun _ h => h.2)) (fun _ h => h.1)); replace HB := Aside0.mk (hb); replace HI265 := Aside0.mk (hi); (try clear hb); (try clear hb2); (try clear hk); (try clear hi)
            refine hK.out _ _ ⟨HS0_, HS1_⟩ (fun hHeld => ?_)
            clear hK K
            refine norm_ (a' := ?_) ?_ ?_
            rotate_left
            · show Act.put _ (some 65) _ = _
              simp only [Act.put, List.setIfInBounds_toArray, List.set_cons_zero, List.set_cons_succ, i64_w, i32_w]
              rfl
            refine pure_ (i := 15) (N := some 66) (v := ?_) (a' := ?_) #[true, true, true, true, true, true, true, true, true, true, true, true, true, true, true, true, false] rfl rfl (any_of HT_.out (by kernel_rfl)) (fun _ _ _ h => h) (Or.inl ⟨by rfl, ?_⟩) ?_ ?_
            rotate_left
            · intro w'
              go_simp
              with_reducible rfl
            rotate_left
            · simp only [Act.put, List.setIfInBounds_toArray, List.set_cons_zero, List.set_cons_succ, i64_w, i32_w]
              rfl
            refine pure_ (i := 16) (N := some 67) (v := ?_) (a' := ?_) #[true, true, true, true, true, true, true, true, true, true, true, true, true, true, true, true, true] rfl rfl (any_of HT_.out (by kernel_rfl)) (fun _ _ _ h => h) (Or.inl ⟨by rfl, ?_⟩) ?_ ?_
            rotate_left
            · intro w'
              go_simp
              with_reducible rfl
            rotate_left
            · simp only [Act.put, List.setIfInBounds_toArray, List.set_cons_zero, List.set_cons_succ, i64_w, i32_w]
              rfl
            refine done_ (done_of HT_.out (by kernel_rfl)) ?_
            obtain ⟨Ao48, co48, eo48⟩ := Kd.R_slice HO_8.out; subst eo48; have p293 : 0 ≤ (0 : Int) := (by omega); have q293 : 0 < (x8_1.length : Int) := oD; obtain ⟨ad293, e293, hx293_0⟩ := Kd.at_int (Kd.R_reads' HO_8.out).2.2 0 p293 q293; cases e293; have qi293 : (0 < x8_1.length) = True := eq_true (by omega)
            (try rw [show ((0 : Int)).toNat = 0 from rfl] at hx293_0)
            (try rw [Addr.add_zero'] at hx293_0)
            replace p293 := eq_true p293; replace q293 := eq_true q293; have p294 : 0 ≤ (1 : Int) := (by omega); have q294 : 1 < (x8_1.length : Int) := oD; obtain ⟨ad294, e294, hx294_0⟩ := Kd.at_int (Kd.R_reads' HO_8.out).2.2 1 p294 q294; obtain rfl : ad293 = ad294 := (by injection e294)
            (try simp only [show (1 : Int).toNat = 1 from rfl, Nat.reduceMul, Nat.reduceEqDiff, Go.Addr.add, ↓reduceIte] at hx294_0)
            have qi294 : (1 < x8_1.length) = True := eq_true (by omega)
            (try rw [show ((1 : Int)).toNat = 1 from rfl] at hx294_0)
            replace p294 := eq_true p294; replace q294 := eq_true q294; have p43 : 0 ≤ (0 : Int) := (by omega); have q43 : (0 : Int) < ((x8_1.length : Int) : Int) := oD; have qi43 : (0 < x8_1.length) = True := eq_true (by omega); obtain ⟨go43, co43, eo43, gb43, gl43, cl43, HG43⟩ := Kd.R_form HO_8.out (by omega)
            (first | cases eo43 | (injection eo43 with ea_ en_ ec_; (first | subst ea_ | (injection ea_ with ea_; subst ea_)); subst ec_; clear en_))
            have GB43 := Aside0.mk gb43; have GG43 := Aside0.mk HG43; clear gb43 gl43 HG43
            (first | simp only [add_plain] at hx293_0 | skip)
            (first | simp only [add_plain] at hx294_0 | skip)
            obtain ⟨hx43_0, hf43_0⟩ := Kd.R_celln 0 HO_8.out (0 : Int) p43 q43
            (try rw [show ((0 : Int)).toNat = 0 from rfl] at hx43_0)
            (try simp only [Nat.reduceMul, Nat.zero_mul, Nat.zero_add, Nat.reduceAdd] at hx43_0)
            (try rw [show ((0 : Int)).toNat = 0 from rfl] at hf43_0)
            (try simp only [Nat.reduceMul, Nat.zero_mul, Nat.zero_add, Nat.reduceAdd] at hf43_0)
            replace p43 := eq_true p43; replace q43 := eq_true q43; obtain ⟨hy49_, hz49_⟩ := Kd.R_celln 0 HO_8.out (0 : Int) (by omega) (oD)
            (try simp only [Int.reduceToNat, Int.toNat_zero, Int.toNat_ofNat, Nat.reduceMul, Nat.zero_mul, Nat.zero_add] at hy49_ hz49_)
            (try rw [show ((0 : Int)).toNat = 0 from rfl] at hy49_)
            (try rw [show ((0 : Int)).toNat = 0 from rfl] at hz49_)
            have HP49 := Kd.R_putg HO_8.out (0 : Int) (rd x8_1 1)
            try go_wp2_with (first | ((with_reducible refine gate_store (t := 3) (p := 75) rfl ?_); refine store_event (t := 3) (p := 75) (v := ?vo_w50) (w1 := (w47.setCell ⟨go43, (0 : Int).toNat, none⟩ (.int .i64 (rd x8_1 1)))) ?hg ?ho ?hn ?hr ?_; (case ho => rfl); (case hg => rfl); (case hn => rfl); (case hr => first | (go_simp; done) | (go_simp; rfl)); intro w50 hw; have hg : w47.grownBy w50 (some go43) := (by rw [hw]; exact HP49.2); have hp_ : Kd.R (Kd.int .i64) 3 w50 w.heap.size (fun k_ => (w.heap.size ≤ k_) ∧ some k_ ≠ (.slice (some ad289) t266.length co22 : Value).ownBlock ∧ some k_ ≠ (.slice Ao45 t270.length co45 : Value).ownBlock) (.slice (some ⟨go43, 0, none⟩) x8_1.length co48) y295 := (by rw [hw, Ny295.out]; exact HP49.1); clear HP49; replace HO_6 := Aside0.mk (Kd.Q_after (v := (.slice (some ⟨go43, 0, none⟩) x8_1.length co48)) (v1 := (.slice (some ⟨go43, 0, none⟩) x8_1.length co48)) (ok := (fun k_ => (w.heap.size ≤ k_) ∧ some k_ ≠ (.slice Ao45 t270.length co45 : Value).ownBlock)) (Kd.QM HO_6.out (fun _ hk => ⟨⟨hk.1, hk.2.1⟩, hk.2.2⟩)) hg (.inl rfl)); replace HO_7 := Aside0.mk (Kd.R_after (v := (.slice (some ⟨go43, 0, none⟩) x8_1.length co48)) (v1 := (.slice (some ⟨go43, 0, none⟩) x8_1.length co48)) (ok := (fun k_ => (w.heap.size ≤ k_) ∧ some k_ ≠ (.slice (some ad289) t266.length co22 : Value).ownBlock)) (Kd.RM HO_7.out (fun _ hk => ⟨⟨hk.1, hk.2.1⟩, hk.2.2⟩)) hg (.inl rfl)); replace HI265 := Aside0.mk (IsS83.grown (by repeat (first | (with_reducible first | exact HI265.out | apply IsS83.alloc | apply IsS83.drewN | apply IsS83.drew | apply IsS83.set_1) | exact HI265.out)) hg (IsS83.own_ne HI265.out HO_8.out (by decide))); replace HO_8 := Aside0.mk (hp_); replace HB := Aside0.mk ((by rw [hw]; exact below_set (HB.out) GB43.out : Below w.heap.size w w50)); clear hg hw hp_; have p44 : 0 ≤ (1 : Int) := (by omega); have q44 : (1 : Int) < ((x8_1.length : Int) : Int) := oD; have qi44 : (1 < x8_1.length) = True := eq_true (by omega); obtain ⟨hx44_0, hf44_0⟩ := Kd.R_celln 0 HO_8.out (1 : Int) p44 q44; (try rw [show ((1 : Int)).toNat = 1 from rfl] at hx44_0); (try simp only [Nat.reduceMul, Nat.zero_mul, Nat.zero_add, Nat.reduceAdd] at hx44_0); (try rw [show ((1 : Int)).toNat = 1 from rfl] at hf44_0); (try simp only [Nat.reduceMul, Nat.zero_mul, Nat.zero_add, Nat.reduceAdd] at hf44_0); replace p44 := eq_true p44; replace q44 := eq_true q44; obtain ⟨hy51_, hz51_⟩ := Kd.R_celln 0 HO_8.out (1 : Int) (by omega) (oD); (try simp only [Int.reduceToNat, Int.toNat_zero, Int.toNat_ofNat, Nat.reduceMul, Nat.zero_mul, Nat.zero_add] at hy51_ hz51_); (try rw [show ((1 : Int)).toNat = 1 from rfl] at hy51_); (try rw [show ((1 : Int)).toNat = 1 from rfl] at hz51_); have HP51 := Kd.R_putg HO_8.out (1 : Int) (rd x8_1 0)) | ((with_reducible refine gate_store (t := 3) (p := 78) rfl ?_); refine store_event (t := 3) (p := 78) (v := ?vo_w52) (w1 := (w50.setCell ⟨go43, (1 : Int).toNat, none⟩ (.int .i64 (rd x8_1 0)))) ?hg ?ho ?hn ?hr ?_; (case ho => rfl); (case hg => rfl); (case hn => rfl); (case hr => first | (go_simp; done) | (go_simp; rfl)); intro w52 hw; have hg : w50.grownBy w52 (some go43) := (by rw [hw]; exact HP51.2); have hp_ : Kd.R (Kd.int .i64) 3 w52 w.heap.size (fun k_ => (w.heap.size ≤ k_) ∧ some k_ ≠ (.slice (some ad289) t266.length co22 : Value).ownBlock ∧ some k_ ≠ (.slice Ao45 t270.length co45 : Value).ownBlock) (.slice (some ⟨go43, 0, none⟩) x8_1.length co48) y296 := (by rw [hw, Ny296.out]; exact HP51.1); clear HP51; replace HO_6 := Aside0.mk (Kd.Q_after (v := (.slice (some ⟨go43, 0, none⟩) x8_1.length co48)) (v1 := (.slice (some ⟨go43, 0, none⟩) x8_1.length co48)) (ok := (fun k_ => (w.heap.size ≤ k_) ∧ some k_ ≠ (.slice Ao45 t270.length co45 : Value).ownBlock)) (U HO_6.out) hg (.inl rfl)); replace HO_7 := Aside0.mk (Kd.R_after (v := (.slice (some ⟨go43, 0, none⟩) x8_1.length co48)) (v1 := (.slice (some ⟨go43, 0, none⟩) x8_1.length co48)) (ok := (fun k_ => (w.heap.size ≤ k_) ∧ some k_ ≠ (.slice (some ad289) t266.length co22 : Value).ownBlock)) (U HO_7.out) hg (.inl rfl)); replace HI265 := Aside0.mk (IsS83.grown (by repeat (first | (with_reducible first | exact HI265.out | apply IsS83.alloc | apply IsS83.drewN | apply IsS83.drew | apply IsS83.set_1) | exact HI265.out)) hg (IsS83.own_ne HI265.out HO_8.out (by decide))); replace HO_8 := Aside0.mk (hp_); replace HB := Aside0.mk ((by rw [hw]; exact below_set (HB.out) GB43.out : Below w.heap.size w w52)); clear hg hw hp_))
            go_ret3
            exact ⟨_, _, _, by first | rfl | (simp [errW_none, errW_some] <;> rfl) | (simp [*, errW_none, errW_some] <;> rfl), Kd.QM HO_6.out (fun _ hk => hk.1.1), Kd.R_V (Kd.RM HO_7.out (fun _ hk => ⟨hk.1.1, hk.1.2⟩)), Kd.R_V (Kd.RM HO_8.out (fun _ hk => ⟨hk.1, hk.2.1⟩)), by repeat (first | (with_reducible first | exact HB.out | apply below_alloc | apply pw_below_drewN | apply below_drew1 | refine below_set ?_ (IsS83.ge HI265.out)) | exact HB.out)⟩
          rw [if_neg c40] at H; have c40b0 : (t291 == 0) = false := beq_eq_false_iff_ne.mpr c40; have c40b1 : (t291 != 0) = true := bne_iff_ne.mpr c40; simp only [Option.some.injEq, Prod.mk.injEq] at H; obtain ⟨rfl, rfl, rfl⟩ := H; obtain ⟨Ao53, co53, eo53⟩ := Kd.R_slice HO_7.out; subst eo53
          try go_wp2
          replace HO_6 := Aside0.mk (Kd.Q_drew HO_6.out); replace HO_7 := Aside0.mk (Kd.R_drew HO_7.out); replace HO_8 := Aside0.mk (Kd.R_drew HO_8.out); replace HI265 := Aside0.mk (IsS83.drew HI265.out); replace HB := Aside0.mk (below_drew1 HB.out); have p289 : 0 ≤ (0 : Int) := (by omega); have q289 : 0 < (t266.length : Int) := oD; obtain ⟨ad289, e289, hx289_0⟩ := Kd.at_int (Kd.Q_reads' HO_6.out).2.2 0 p289 q289; cases e289; have qi289 : (0 < t266.length) = True := eq_true (by omega)
          (try rw [show ((0 : Int)).toNat = 0 from rfl] at hx289_0)
          (try rw [Addr.add_zero'] at hx289_0)
          replace p289 := eq_true p289; replace q289 := eq_true q289; have p290 : 0 ≤ (1 : Int) := (by omega); have q290 : 1 < (t266.length : Int) := oD; obtain ⟨ad290, e290, hx290_0⟩ := Kd.at_int (Kd.Q_reads' HO_6.out).2.2 1 p290 q290; obtain rfl : ad289 = ad290 := (by injection e290)
          (try simp only [show (1 : Int).toNat = 1 from rfl, Nat.reduceMul, Nat.reduceEqDiff, Go.Addr.add, ↓reduceIte] at hx290_0)
          have qi290 : (1 < t266.length) = True := eq_true (by omega)
          (try rw [show ((1 : Int)).toNat = 1 from rfl] at hx290_0)
          replace p290 := eq_true p290; replace q290 := eq_true q290
          refine start_ (n := 17) (S := fun w' => w'.cell? ad289 = some (.int .i64 (rd t266 0)) ∧ w'.cell? ⟨ad289.block, ad289.off + 1, none⟩ = some (.int .i64 (rd t266 1))) (ds := []) #[false, false, false, false, false, false, false, false, false, false, false, false, false, false, false, false, false] (by kernel_rfl) rfl rfl ⟨hx289_0, hx290_0⟩ (fun hHeld => ?_); refine with_tabW spec_DrawMoveCarry.tab14 spec_DrawMoveCarry.bits14 (fun HT_ HW_ => ?_)
          generalize wr.drew = w54 at HO_6 HO_7 HO_8 HI265 HB hx289_0 hx290_0 hHeld ⊢
          refine pure_ (i := 0) (N := some 51) (v := ?_) (a' := ?_) #[true, false, false, false, false, false, false, false, false, false, false, false, false, false, false, false, false] rfl rfl (any_of HT_.out (by kernel_rfl)) (fun _ _ _ h => h) (Or.inl ⟨by rfl, ?_⟩) ?_ ?_
          rotate_left
          · intro w'
            go_simp
            with_reducible rfl
          rotate_left
          · simp only [Act.put, List.setIfInBounds_toArray, List.set_cons_zero, List.set_cons_succ, i64_w, i32_w]
            rfl
          refine pure_ (i := 1) (N := some 52) (v := ?_) (a' := ?_) #[true, true, false, false, false, false, false, false, false, false, false, false, false, false, false, false, false] rfl rfl (any_of HT_.out (by kernel_rfl)) (fun _ _ _ h => h) (Or.inl ⟨by rfl, ?_⟩) ?_ ?_
          rotate_left
          · intro w'
            go_simp
            with_reducible rfl
          rotate_left
          · simp only [Act.put, List.setIfInBounds_toArray, List.set_cons_zero, List.set_cons_succ, i64_w, i32_w]
            rfl
          refine pure_ (i := 2) (N := some 53) (v := ?_) (a' := ?_) #[true, true, true, false, false, false, false, false, false, false, false, false, false, false, false, false, false] rfl rfl (any_of HT_.out (by kernel_rfl)) (fun _ _ _ h => h) (Or.inl ⟨by rfl, ?_⟩) ?_ ?_
          rotate_left
          · intro w'
            go_simp
            with_reducible rfl
          rotate_left
          · simp only [Act.put, List.setIfInBounds_toArray, List.set_cons_zero, List.set_cons_succ, i64_w, i32_w]
            rfl
          refine pure_ (i := 3) (N := some 54) (v := ?_) (a' := ?_) #[true, true, true, true, false, false, false, false, false, false, false, false, false, false, false, false, false] rfl rfl (any_of HT_.out (by kernel_rfl)) (fun _ _ _ h => h) (Or.inl ⟨by rfl, ?_⟩) ?_ ?_
          rotate_left
          · intro w'
            go_simp
            with_reducible rfl
          rotate_left
          · simp only [Act.put, List.setIfInBounds_toArray, List.set_cons_zero, List.set_cons_succ, i64_w, i32_w]
            rfl
          refine pure_ (i := 4) (N := some 55) (v := ?_) (a' := ?_) #[true, true, true, true, true, false, false, false, false, false, false, false, false, false, false, false, false] rfl rfl (any_of HT_.out (by kernel_rfl)) (fun _ _ _ h => h) (Or.inl ⟨by rfl, ?_⟩) ?_ ?_
          rotate_left
          · intro w'
            go_simp
            with_reducible rfl
          rotate_left
          · simp only [Act.put, List.setIfInBounds_toArray, List.set_cons_zero, List.set_cons_succ, i64_w, i32_w]
            rfl
          refine pure_ (i := 5) (N := some 56) (v := ?_) (a' := ?_) #[true, true, true, true, true, true, false, false, false, false, false, false, false, false, false, false, false] rfl rfl (any_of HT_.out (by kernel_rfl)) (fun _ _ _ h => h) (Or.inl ⟨by rfl, ?_⟩) ?_ ?_
          rotate_left
          · intro w'
            go_simp
            with_reducible rfl
          rotate_left
          · simp only [Act.put, List.setIfInBounds_toArray, List.set_cons_zero, List.set_cons_succ, i64_w, i32_w]
            rfl
          refine pure_ (i := 7) (N := some 58) (v := ?_) (a' := ?_) #[true, true, true, true, true, true, false, true, false, false, false, false, false, false, false, false, false] rfl rfl (any_of HT_.out (by kernel_rfl)) (fun _ _ _ h => h) (Or.inl ⟨by rfl, ?_⟩) ?_ ?_
          rotate_left
          · intro w'
            go_simp
            with_reducible rfl
          rotate_left
          · simp only [Act.put, List.setIfInBounds_toArray, List.set_cons_zero, List.set_cons_succ, i64_w, i32_w]
            rfl
          refine pure_ (i := 8) (N := some 59) (v := ?_) (a' := ?_) #[true, true, true, true, true, true, false, true, true, false, false, false, false, false, false, false, false] rfl rfl (any_of HT_.out (by kernel_rfl)) (fun _ _ _ h => h) (Or.inl ⟨by rfl, ?_⟩) ?_ ?_
          rotate_left
          · intro w'
            go_simp
            with_reducible rfl
          rotate_left
          · simp only [Act.put, List.setIfInBounds_toArray, List.set_cons_zero, List.set_cons_succ, i64_w, i32_w]
            rfl
          refine take_ (i := 6) (N := some 57) (v := ?_) (a' := ?_) #[true, true, true, true, true, true, true, true, true, false, false, false, false, false, false, false, false] rfl rfl (take_ofW HT_.out HW_.out (by kernel_rfl)) (fun _ _ _ h => h) (Or.inl ⟨by rfl, ?_⟩) hHeld ?_ ?_
          rotate_left
          · rintro w' ⟨s0, s1⟩
            go_simp
            with_reducible rfl
          rotate_left
          · simp only [Act.put, List.setIfInBounds_toArray, List.set_cons_zero, List.set_cons_succ, i64_w, i32_w]
            rfl
          refine take_ (i := 9) (N := some 60) (v := ?_) (a' := ?_) #[true, true, true, true, true, true, true, true, true, true, false, false, false, false, false, false, false] rfl rfl (take_ofW HT_.out HW_.out (by kernel_rfl)) (fun _ _ _ h => h) (Or.inl ⟨by rfl, ?_⟩) hHeld ?_ ?_
          rotate_left
          · rintro w' ⟨s0, s1⟩
            go_simp
            with_reducible rfl
          rotate_left
          · simp only [Act.put, List.setIfInBounds_toArray, List.set_cons_zero, List.set_cons_succ, i64_w, i32_w]
            rfl
          refine pure_ (i := 10) (N := some 61) (v := ?_) (a' := ?_) #[true, true, true, true, true, true, true, true, true, true, true, false, false, false, false, false, false] rfl rfl (any_of HT_.out (by kernel_rfl)) (fun _ _ _ h => h) (Or.inl ⟨by rfl, ?_⟩) ?_ ?_
          rotate_left
          · intro w'
            go_simp
            with_reducible rfl
          rotate_left
          · simp only [Act.put, List.setIfInBounds_toArray, List.set_cons_zero, List.set_cons_succ, i64_w, i32_w]
            rfl
          refine pure_ (i := 11) (N := some 62) (v := ?_) (a' := ?_) #[true, true, true, true, true, true, true, true, true, true, true, true, false, false, false, false, false] rfl rfl (any_of HT_.out (by kernel_rfl)) (fun _ _ _ h => h) (Or.inl ⟨by rfl, ?_⟩) ?_ ?_
          rotate_left
          · intro w'
            go_simp
            with_reducible rfl
          rotate_left
          · simp only [Act.put, List.setIfInBounds_toArray, List.set_cons_zero, List.set_cons_succ, i64_w, i32_w]
            rfl
          refine pure_ (i := 12) (N := some 63) (v := ?_) (a' := ?_) #[true, true, true, true, true, true, true, true, true, true, true, true, true, false, false, false, false] rfl rfl (any_of HT_.out (by kernel_rfl)) (fun _ _ _ h => h) (Or.inl ⟨by rfl, ?_⟩) ?_ ?_
          rotate_left
          · intro w'
            go_simp
            with_reducible rfl
          rotate_left
          · simp only [Act.put, List.setIfInBounds_toArray, List.set_cons_zero, List.set_cons_succ, i64_w, i32_w]
            rfl
          refine pure_ (i := 13) (N := some 64) (v := ?_) (a' := ?_) #[true, true, true, true, true, true, true, true, true, true, true, true, true, true, false, false, false] rfl rfl (any_of HT_.out (by kernel_rfl)) (fun _ _ _ h => h) (Or.inl ⟨by rfl, ?_⟩) ?_ ?_
          rotate_left
          · intro w'
            go_simp
            with_reducible rfl
          rotate_left
          · simp only [Act.put, List.setIfInBounds_toArray, List.set_cons_zero, List.set_cons_succ, i64_w, i32_w]
            rfl
          refine one_ (i := 14) (N := some 65) #[true, true, true, true, true, true, true, true, true, true, true, true, true, true, true, false, false] rfl rfl (one_of HT_.out (by kernel_rfl)) (by decide) (fun K hK => ?_)
          refine goes_ Try.func71 (by kernel_rfl) rfl #[.pointer (some ⟨g265, 0, none⟩), .int .i64 2] (by rfl) rfl rfl (by (try simp only [List.map_toArray, List.map_cons, List.map_nil]); first | done | rfl | (simp only [List.length_drop, List.length_take]; rfl)) ?_
          with_reducible refine (spec_l6Rd_pick.calls k1 g265 t263 x266001_1 2 t291 t292 w _ ?side1 ?side2 A39.out).mono ?_
          (case side1 => repeat (first | (with_reducible first | exact HI265.out | apply IsS83.alloc | apply IsS83.drewN | apply IsS83.drew | apply IsS83.set_1) | exact HI265.out))
          (case side2 => repeat (first | (with_reducible first | exact HB.out | apply below_alloc | apply pw_below_drewN | apply below_drew1 | refine below_set ?_ (IsS83.ge HI265.out)) | exact HB.out))
          rintro e w55 ⟨rfl, hi, hb, hk⟩; have HS0_ := keep_cell hk (hHeld.1) (by first | (rw [add_block]; exact Kd.own_blk (IsS83.own_neQ HI265.out HO_6.out (by decide))) | (show (Addr.add _ _).block ≠ _; rw [add_block]; exact Kd.own_blk (IsS83.own_neQ HI265.out HO_6.out (by decide))) | (have hh_ := IsS83.own_neQ HI265.out HO_6.out (by decide); exact (Kd.own_blk hh_ :))); have HS1_ := keep_cell hk (hHeld.2) (by first | (rw [add_block]; exact Kd.own_blk (IsS83.own_neQ HI265.out HO_6.out (by decide))) | (show (Addr.add _ _).block ≠ _; rw [add_block]; exact Kd.own_blk (IsS83.own_neQ HI265.out HO_6.out (by decide))) | (have hh_ := IsS83.own_neQ HI265.out HO_6.out (by decide); exact (Kd.own_blk hh_ :)))
          refine ⟨_, rfl, ?_⟩
          replace HO_6 := Aside0.mk (Kd.Q_mono (Kd.Q_keep (IsS83.apartQ (show IsS83 w _ g265 t263 x266001_1 from by repeat (first | (with_reducible first | exact HI265.out | apply IsS83.alloc | apply IsS83.drewN | apply IsS83.drew | apply IsS83.set_1) | exact HI265.out)) (U HO_6.out) (by decide)) hk (fun _ h => h.2)) (fun _ h => h.1)); replace HO_7 := Aside0.mk (Kd.R_mono (Kd.R_keep (IsS83.apart (show IsS83 w _ g265 t263 x266001_1 from by repeat (first | (with_reducible first | exact HI265.out | apply IsS83.alloc | apply IsS83.drewN | apply IsS83.drew | apply IsS83.set_1) | exact HI265.out)) (U HO_7.out) (by decide)) hk (fun _ h => h.2)) (fun _ h => h.1)); replace HO_8 := Aside0.mk (Kd.R_mono (Kd.R_keep (IsS83.apart (show IsS83 w _ g265 t263 x266001_1 from by repeat (first | (with_reducible first | exact HI265.out | apply IsS83.alloc | apply IsS83.drewN | apply IsS83.drew | apply IsS83.set_1) | exact HI265.out)) (U HO_8.out) (by decide)) hk (fun _ h => h.2)) (fun _ h => h.1)); replace HB := Aside0.mk (hb); replace HI265 := Aside0.mk (hi); (try clear hb); (try clear hb2); (try clear hk); (try clear hi)
          refine hK.out _ _ ⟨HS0_, HS1_⟩ (fun hHeld => ?_)
          clear hK K
          refine norm_ (a' := ?_) ?_ ?_
          rotate_left
          · show Act.put _ (some 65) _ = _
            simp only [Act.put, List.setIfInBounds_toArray, List.set_cons_zero, List.set_cons_succ, i64_w, i32_w]
            rfl
          refine pure_ (i := 15) (N := some 66) (v := ?_) (a' := ?_) #[true, true, true, true, true, true, true, true, true, true, true, true, true, true, true, true, false] rfl rfl (any_of HT_.out (by kernel_rfl)) (fun _ _ _ h => h) (Or.inl ⟨by rfl, ?_⟩) ?_ ?_
          rotate_left
          · intro w'
            go_simp
            with_reducible rfl
          rotate_left
          · simp only [Act.put, List.setIfInBounds_toArray, List.set_cons_zero, List.set_cons_succ, i64_w, i32_w]
            rfl
          refine pure_ (i := 16) (N := some 67) (v := ?_) (a' := ?_) #[true, true, true, true, true, true, true, true, true, true, true, true, true, true, true, true, true] rfl rfl (any_of HT_.out (by kernel_rfl)) (fun _ _ _ h => h) (Or.inl ⟨by rfl, ?_⟩) ?_ ?_
          rotate_left
          · intro w'
            go_simp
            with_reducible rfl
          rotate_left
          · simp only [Act.put, List.setIfInBounds_toArray, List.set_cons_zero, List.set_cons_succ, i64_w, i32_w]
            rfl
          refine done_ (done_of HT_.out (by kernel_rfl)) ?_
          try go_wp2
          go_ret3
          exact ⟨_, _, _, by first | rfl | (simp [errW_none, errW_some] <;> rfl) | (simp [*, errW_none, errW_some] <;> rfl), Kd.QM HO_6.out (fun _ hk => hk.1), Kd.R_V (Kd.RM HO_7.out (fun _ hk => ⟨hk.1, hk.2.1⟩)), Kd.R_V (Kd.RM HO_8.out (fun _ hk => ⟨hk.1, hk.2.1⟩)), by repeat (first | (with_reducible first | exact HB.out | apply below_alloc | apply pw_below_drewN | apply below_drew1 | refine below_set ?_ (IsS83.ge HI265.out)) | exact HB.out)⟩
        rw [if_neg c38] at H; have c38b0 : ((rd t266 0) == (rd t266 1)) = false := beq_eq_false_iff_ne.mpr c38; have c38b1 : ((rd t266 0) != (rd t266 1)) = true := bne_iff_ne.mpr c38; simp only [Option.some.injEq, Prod.mk.injEq] at H; obtain ⟨rfl, rfl, rfl⟩ := H; obtain ⟨Ao56, co56, eo56⟩ := Kd.R_slice HO_7.out; subst eo56
        try go_wp2
        replace HO_6 := Aside0.mk (Kd.Q_drew HO_6.out); replace HO_7 := Aside0.mk (Kd.R_drew HO_7.out); replace HO_8 := Aside0.mk (Kd.R_drew HO_8.out); replace HI265 := Aside0.mk (IsS83.drew HI265.out); replace HB := Aside0.mk (below_drew1 HB.out); have p289 : 0 ≤ (0 : Int) := (by omega); have q289 : 0 < (t266.length : Int) := oD; obtain ⟨ad289, e289, hx289_0⟩ := Kd.at_int (Kd.Q_reads' HO_6.out).2.2 0 p289 q289; cases e289; have qi289 : (0 < t266.length) = True := eq_true (by omega)
        (try rw [show ((0 : Int)).toNat = 0 from rfl] at hx289_0)
        (try rw [Addr.add_zero'] at hx289_0)
        replace p289 := eq_true p289; replace q289 := eq_true q289; have p290 : 0 ≤ (1 : Int) := (by omega); have q290 : 1 < (t266.length : Int) := oD; obtain ⟨ad290, e290, hx290_0⟩ := Kd.at_int (Kd.Q_reads' HO_6.out).2.2 1 p290 q290; obtain rfl : ad289 = ad290 := (by injection e290)
        (try simp only [show (1 : Int).toNat = 1 from rfl, Nat.reduceMul, Nat.reduceEqDiff, Go.Addr.add, ↓reduceIte] at hx290_0)
        have qi290 : (1 < t266.length) = True := eq_true (by omega)
        (try rw [show ((1 : Int)).toNat = 1 from rfl] at hx290_0)
        replace p290 := eq_true p290; replace q290 := eq_true q290
        refine start_ (n := 17) (S := fun w' => w'.cell? ad289 = some (.int .i64 (rd t266 0)) ∧ w'.cell? ⟨ad289.block, ad289.off + 1, none⟩ = some (.int .i64 (rd t266 1))) (ds := []) #[false, false, false, false, false, false, false, false, false, false, false, false, false, false, false, false, false] (by kernel_rfl) rfl rfl ⟨hx289_0, hx290_0⟩ (fun hHeld => ?_); refine with_tabW spec_DrawMoveCarry.tab14 spec_DrawMoveCarry.bits14 (fun HT_ HW_ => ?_)
        generalize wr.drew = w57 at HO_6 HO_7 HO_8 HI265 HB hx289_0 hx290_0 hHeld ⊢
        refine pure_ (i := 0) (N := some 51) (v := ?_) (a' := ?_) #[true, false, false, false, false, false, false, false, false, false, false, false, false, false, false, false, false] rfl rfl (any_of HT_.out (by kernel_rfl)) (fun _ _ _ h => h) (Or.inl ⟨by rfl, ?_⟩) ?_ ?_
        rotate_left
        · intro w'
          go_simp
          with_reducible rfl
        rotate_left
        · simp only [Act.put, List.setIfInBounds_toArray, List.set_cons_zero, List.set_cons_succ, i64_w, i32_w]
          rfl
        refine pure_ (i := 1) (N := some 52) (v := ?_) (a' := ?_) #[true, true, false, false, false, false, false, false, false, false, false, false, false, false, false, false, false] rfl rfl (any_of HT_.out (by kernel_rfl)) (fun _ _ _ h => h) (Or.inl ⟨by rfl, ?_⟩) ?_ ?_
        rotate_left
        · intro w'
          go_simp
          with_reducible rfl
        rotate_left
        · simp only [Act.put, List.setIfInBounds_toArray, List.set_cons_zero, List.set_cons_succ, i64_w, i32_w]
          rfl
        refine pure_ (i := 2) (N := some 53) (v := ?_) (a' := ?_) #[true, true, true, false, false, false, false, false, false, false, false, false, false, false, false, false, false] rfl rfl (any_of HT_.out (by kernel_rfl)) (fun _ _ _ h => h) (Or.inl ⟨by rfl, ?_⟩) ?_ ?_
        rotate_left
        · intro w'
          go_simp
          with_reducible rfl
        rotate_left
        · simp only [Act.put, List.setIfInBounds_toArray, List.set_cons_zero, List.set_cons_succ, i64_w, i32_w]
          rfl
        refine pure_ (i := 3) (N := some 54) (v := ?_) (a' := ?_) #[true, true, true, true, false, false, false, false, false, false, false, false, false, false, false, false, false] rfl rfl (any_of HT_.out (by kernel_rfl)) (fun _ _ _ h => h) (Or.inl ⟨by rfl, ?_⟩) ?_ ?_
        rotate_left
        · intro w'
          go_simp
          with_reducible rfl
        rotate_left
        · simp only [Act.put, List.setIfInBounds_toArray, List.set_cons_zero, List.set_cons_succ, i64_w, i32_w]
          rfl
        refine pure_ (i := 4) (N := some 55) (v := ?_) (a' := ?_) #[true, true, true, true, true, false, false, false, false, false, false, false, false, false, false, false, false] rfl rfl (any_of HT_.out (by kernel_rfl)) (fun _ _ _ h => h) (Or.inl ⟨by rfl, ?_⟩) ?_ ?_
        rotate_left
        · intro w'
          go_simp
          with_reducible rfl
        rotate_left
        · simp only [Act.put, List.setIfInBounds_toArray, List.set_cons_zero, List.set_cons_succ, i64_w, i32_w]
          rfl
        refine pure_ (i := 5) (N := some 56) (v := ?_) (a' := ?_) #[true, true, true, true, true, true, false, false, false, false, false, false, false, false, false, false, false] rfl rfl (any_of HT_.out (by kernel_rfl)) (fun _ _ _ h => h) (Or.inl ⟨by rfl, ?_⟩) ?_ ?_
        rotate_left
        · intro w'
          go_simp
          with_reducible rfl
        rotate_left
        · simp only [Act.put, List.setIfInBounds_toArray, List.set_cons_zero, List.set_cons_succ, i64_w, i32_w]
          rfl
        refine pure_ (i := 7) (N := some 58) (v := ?_) (a' := ?_) #[true, true, true, true, true, true, false, true, false, false, false, false, false, false, false, false, false] rfl rfl (any_of HT_.out (by kernel_rfl)) (fun _ _ _ h => h) (Or.inl ⟨by rfl, ?_⟩) ?_ ?_
        rotate_left
        · intro w'
          go_simp
          with_reducible rfl
        rotate_left
        · simp only [Act.put, List.setIfInBounds_toArray, List.set_cons_zero, List.set_cons_succ, i64_w, i32_w]
          rfl
        refine pure_ (i := 8) (N := some 59) (v := ?_) (a' := ?_) #[true, true, true, true, true, true, false, true, true, false, false, false, false, false, false, false, false] rfl rfl (any_of HT_.out (by kernel_rfl)) (fun _ _ _ h => h) (Or.inl ⟨by rfl, ?_⟩) ?_ ?_
        rotate_left
        · intro w'
          go_simp
          with_reducible rfl
        rotate_left
        · simp only [Act.put, List.setIfInBounds_toArray, List.set_cons_zero, List.set_cons_succ, i64_w, i32_w]
          rfl
        refine take_ (i := 6) (N := some 57) (v := ?_) (a' := ?_) #[true, true, true, true, true, true, true, true, true, false, false, false, false, false, false, false, false] rfl rfl (take_ofW HT_.out HW_.out (by kernel_rfl)) (fun _ _ _ h => h) (Or.inl ⟨by rfl, ?_⟩) hHeld ?_ ?_
        rotate_left
        · rintro w' ⟨s0, s1⟩
          go_simp
          with_reducible rfl
        rotate_left
        · simp only [Act.put, List.setIfInBounds_toArray, List.set_cons_zero, List.set_cons_succ, i64_w, i32_w]
          rfl
        refine take_ (i := 9) (N := some 60) (v := ?_) (a' := ?_) #[true, true, true, true, true, true, true, true, true, true, false, false, false, false, false, false, false] rfl rfl (take_ofW HT_.out HW_.out (by kernel_rfl)) (fun _ _ _ h => h) (Or.inl ⟨by rfl, ?_⟩) hHeld ?_ ?_
        rotate_left
        · rintro w' ⟨s0, s1⟩
          go_simp
          with_reducible rfl
        rotate_left
        · simp only [Act.put, List.setIfInBounds_toArray, List.set_cons_zero, List.set_cons_succ, i64_w, i32_w]
          rfl
        refine pure_ (i := 10) (N := some 61) (v := ?_) (a' := ?_) #[true, true, true, true, true, true, true, true, true, true, true, false, false, false, false, false, false] rfl rfl (any_of HT_.out (by kernel_rfl)) (fun _ _ _ h => h) (Or.inl ⟨by rfl, ?_⟩) ?_ ?_
        rotate_left
        · intro w'
          go_simp
          with_reducible rfl
        rotate_left
        · simp only [Act.put, List.setIfInBounds_toArray, List.set_cons_zero, List.set_cons_succ, i64_w, i32_w]
          rfl
        refine pure_ (i := 11) (N := some 62) (v := ?_) (a' := ?_) #[true, true, true, true, true, true, true, true, true, true, true, true, false, false, false, false, false] rfl rfl (any_of HT_.out (by kernel_rfl)) (fun _ _ _ h => h) (Or.inl ⟨by rfl, ?_⟩) ?_ ?_
        rotate_left
        · intro w'
          go_simp
          with_reducible rfl
        rotate_left
        · simp only [Act.put, List.setIfInBounds_toArray, List.set_cons_zero, List.set_cons_succ, i64_w, i32_w]
          rfl
        refine pure_ (i := 12) (N := some 63) (v := ?_) (a' := ?_) #[true, true, true, true, true, true, true, true, true, true, true, true, true, false, false, false, false] rfl rfl (any_of HT_.out (by kernel_rfl)) (fun _ _ _ h => h) (Or.inl ⟨by rfl, ?_⟩) ?_ ?_
        rotate_left
        · intro w'
          go_simp
          with_reducible rfl
        rotate_left
        · simp only [Act.put, List.setIfInBounds_toArray, List.set_cons_zero, List.set_cons_succ, i64_w, i32_w]
          rfl
        refine pure_ (i := 13) (N := some 64) (v := undef) (a' := ?_) #[true, true, true, true, true, true, true, true, true, true, true, true, true, true, false, false, false] rfl rfl (any_of HT_.out (by kernel_rfl)) (fun _ _ _ h => h) (Or.inr ⟨by rfl, rfl⟩) ?_ ?_
        rotate_left
        · simp only [Act.put, List.setIfInBounds_toArray, List.set_cons_zero, List.set_cons_succ, i64_w, i32_w]
          rfl
        refine pure_ (i := 14) (N := some 65) (v := undef) (a' := ?_) #[true, true, true, true, true, true, true, true, true, true, true, true, true, true, true, false, false] rfl rfl (any_of HT_.out (by kernel_rfl)) (fun _ _ _ h => h) (Or.inr ⟨by rfl, rfl⟩) ?_ ?_
        rotate_left
        · simp only [Act.put, List.setIfInBounds_toArray, List.set_cons_zero, List.set_cons_succ, i64_w, i32_w]
          rfl
        refine pure_ (i := 15) (N := some 66) (v := undef) (a' := ?_) #[true, true, true, true, true, true, true, true, true, true, true, true, true, true, true, true, false] rfl rfl (any_of HT_.out (by kernel_rfl)) (fun _ _ _ h => h) (Or.inr ⟨by rfl, rfl⟩) ?_ ?_
        rotate_left
        · simp only [Act.put, List.setIfInBounds_toArray, List.set_cons_zero, List.set_cons_succ, i64_w, i32_w]
          rfl
        refine pure_ (i := 16) (N := some 67) (v := ?_) (a' := ?_) #[true, true, true, true, true, true, true, true, true, true, true, true, true, true, true, true, true] rfl rfl (any_of HT_.out (by kernel_rfl)) (fun _ _ _ h => h) (Or.inl ⟨by rfl, ?_⟩) ?_ ?_
        rotate_left
        · intro w'
          go_simp
          with_reducible rfl
        rotate_left
        · simp only [Act.put, List.setIfInBounds_toArray, List.set_cons_zero, List.set_cons_succ, i64_w, i32_w]
          rfl
        refine done_ (done_of HT_.out (by kernel_rfl)) ?_
        try go_wp2
        go_ret3
        exact ⟨_, _, _, by first | rfl | (simp [errW_none, errW_some] <;> rfl) | (simp [*, errW_none, errW_some] <;> rfl), Kd.QM HO_6.out (fun _ hk => hk.1), Kd.R_V (Kd.RM HO_7.out (fun _ hk => ⟨hk.1, hk.2.1⟩)), Kd.R_V (Kd.RM HO_8.out (fun _ hk => ⟨hk.1, hk.2.1⟩)), by repeat (first | (with_reducible first | exact HB.out | apply below_alloc | apply pw_below_drewN | apply below_drew1 | refine below_set ?_ (IsS83.ge HI265.out)) | exact HB.out)⟩
      rw [if_neg c35] at H; have c35b0 : ((t266.length : Int) == 3) = false := beq_eq_false_iff_ne.mpr c35; have c35b1 : ((t266.length : Int) != 3) = true := bne_iff_ne.mpr c35; simp only [Option.some.injEq, Prod.mk.injEq] at H; obtain ⟨rfl, rfl, rfl⟩ := H; obtain ⟨Ao58, co58, eo58⟩ := Kd.R_slice HO_7.out; subst eo58
      try go_wp2
      replace HO_6 := Aside0.mk (Kd.Q_drew HO_6.out); replace HO_7 := Aside0.mk (Kd.R_drew HO_7.out); replace HO_8 := Aside0.mk (Kd.R_drew HO_8.out); replace HI265 := Aside0.mk (IsS83.drew HI265.out); replace HB := Aside0.mk (below_drew1 HB.out)
      refine start_ (n := 17) (S := fun w' => True) (ds := []) #[false, false, false, false, false, false, false, false, false, false, false, false, false, false, false, false, false] (by kernel_rfl) rfl rfl trivial (fun hHeld => ?_); refine with_tabW spec_DrawMoveCarry.tab14 spec_DrawMoveCarry.bits14 (fun HT_ HW_ => ?_)
      generalize wr.drew = w59 at HO_6 HO_7 HO_8 HI265 HB hHeld ⊢
      refine pure_ (i := 0) (N := some 51) (v := ?_) (a' := ?_) #[true, false, false, false, false, false, false, false, false, false, false, false, false, false, false, false, false] rfl rfl (any_of HT_.out (by kernel_rfl)) (fun _ _ _ h => h) (Or.inl ⟨by rfl, ?_⟩) ?_ ?_
      rotate_left
      · intro w'
        go_simp
        with_reducible rfl
      rotate_left
      · simp only [Act.put, List.setIfInBounds_toArray, List.set_cons_zero, List.set_cons_succ, i64_w, i32_w]
        rfl
      refine pure_ (i := 1) (N := some 52) (v := ?_) (a' := ?_) #[true, true, false, false, false, false, false, false, false, false, false, false, false, false, false, false, false] rfl rfl (any_of HT_.out (by kernel_rfl)) (fun _ _ _ h => h) (Or.inl ⟨by rfl, ?_⟩) ?_ ?_
      rotate_left
      · intro w'
        go_simp
        with_reducible rfl
      rotate_left
      · simp only [Act.put, List.setIfInBounds_toArray, List.set_cons_zero, List.set_cons_succ, i64_w, i32_w]
        rfl
      refine pure_ (i := 2) (N := some 53) (v := ?_) (a' := ?_) #[true, true, true, false, false, false, false, false, false, false, false, false, false, false, false, false, false] rfl rfl (any_of HT_.out (by kernel_rfl)) (fun _ _ _ h => h) (Or.inl ⟨by rfl, ?_⟩) ?_ ?_
      rotate_left
      · intro w'
        go_simp
        with_reducible rfl
      rotate_left
      · simp only [Act.put, List.setIfInBounds_toArray, List.set_cons_zero, List.set_cons_succ, i64_w, i32_w]
        rfl
      refine pure_ (i := 3) (N := some 54) (v := ?_) (a' := ?_) #[true, true, true, true, false, false, false, false, false, false, false, false, false, false, false, false, false] rfl rfl (any_of HT_.out (by kernel_rfl)) (fun _ _ _ h => h) (Or.inl ⟨by rfl, ?_⟩) ?_ ?_
      rotate_left
      · intro w'
        go_simp
        with_reducible rfl
      rotate_left
      · simp only [Act.put, List.setIfInBounds_toArray, List.set_cons_zero, List.set_cons_succ, i64_w, i32_w]
        rfl
      refine pure_ (i := 4) (N := some 55) (v := undef) (a' := ?_) #[true, true, true, true, true, false, false, false, false, false, false, false, false, false, false, false, false] rfl rfl (any_of HT_.out (by kernel_rfl)) (fun _ _ _ h => h) (Or.inr ⟨by rfl, rfl⟩) ?_ ?_
      rotate_left
      · simp only [Act.put, List.setIfInBounds_toArray, List.set_cons_zero, List.set_cons_succ, i64_w, i32_w]
        rfl
      refine pure_ (i := 5) (N := some 56) (v := undef) (a' := ?_) #[true, true, true, true, true, true, false, false, false, false, false, false, false, false, false, false, false] rfl rfl (any_of HT_.out (by kernel_rfl)) (fun _ _ _ h => h) (Or.inr ⟨by rfl, rfl⟩) ?_ ?_
      rotate_left
      · simp only [Act.put, List.setIfInBounds_toArray, List.set_cons_zero, List.set_cons_succ, i64_w, i32_w]
        rfl
      refine pure_ (i := 6) (N := some 57) (v := undef) (a' := ?_) #[true, true, true, true, true, true, true, false, false, false, false, false, false, false, false, false, false] rfl rfl (any_of HT_.out (by kernel_rfl)) (fun _ _ _ h => h) (Or.inr ⟨by rfl, rfl⟩) ?_ ?_
      rotate_left
      · simp only [Act.put, List.setIfInBounds_toArray, List.set_cons_zero, List.set_cons_succ, i64_w, i32_w]
        rfl
      refine pure_ (i := 7) (N := some 58) (v := undef) (a' := ?_) #[true, true, true, true, true, true, true, true, false, false, false, false, false, false, false, false, false] rfl rfl (any_of HT_.out (by kernel_rfl)) (fun _ _ _ h => h) (Or.inr ⟨by rfl, rfl⟩) ?_ ?_
      rotate_left
      · simp only [Act.put, List.setIfInBounds_toArray, List.set_cons_zero, List.set_cons_succ, i64_w, i32_w]
        rfl
      refine pure_ (i := 8) (N := some 59) (v := undef) (a' := ?_) #[true, true, true, true, true, true, true, true, true, false, false, false, false, false, false, false, false] rfl rfl (any_of HT_.out (by kernel_rfl)) (fun _ _ _ h => h) (Or.inr ⟨by rfl, rfl⟩) ?_ ?_
      rotate_left
      · simp only [Act.put, List.setIfInBounds_toArray, List.set_cons_zero, List.set_cons_succ, i64_w, i32_w]
        rfl
      refine pure_ (i := 9) (N := some 60) (v := undef) (a' := ?_) #[true, true, true, true, true, true, true, true, true, true, false, false, false, false, false, false, false] rfl rfl (any_of HT_.out (by kernel_rfl)) (fun _ _ _ h => h) (Or.inr ⟨by rfl, rfl⟩) ?_ ?_
      rotate_left
      · simp only [Act.put, List.setIfInBounds_toArray, List.set_cons_zero, List.set_cons_succ, i64_w, i32_w]
        rfl
      refine pure_ (i := 10) (N := some 61) (v := undef) (a' := ?_) #[true, true, true, true, true, true, true, true, true, true, true, false, false, false, false, false, false] rfl rfl (any_of HT_.out (by kernel_rfl)) (fun _ _ _ h => h) (Or.inr ⟨by rfl, rfl⟩) ?_ ?_
      rotate_left
      · simp only [Act.put, List.setIfInBounds_toArray, List.set_cons_zero, List.set_cons_succ, i64_w, i32_w]
        rfl
      refine pure_ (i := 11) (N := some 62) (v := ?_) (a' := ?_) #[true, true, true, true, true, true, true, true, true, true, true, true, false, false, false, false, false] rfl rfl (any_of HT_.out (by kernel_rfl)) (fun _ _ _ h => h) (Or.inl ⟨by rfl, ?_⟩) ?_ ?_
      rotate_left
      · intro w'
        go_simp
        with_reducible rfl
      rotate_left
      · simp only [Act.put, List.setIfInBounds_toArray, List.set_cons_zero, List.set_cons_succ, i64_w, i32_w]
        rfl
      refine pure_ (i := 12) (N := some 63) (v := ?_) (a' := ?_) #[true, true, true, true, true, true, true, true, true, true, true, true, true, false, false, false, false] rfl rfl (any_of HT_.out (by kernel_rfl)) (fun _ _ _ h => h) (Or.inl ⟨by rfl, ?_⟩) ?_ ?_
      rotate_left
      · intro w'
        go_simp
        with_reducible rfl
      rotate_left
      · simp only [Act.put, List.setIfInBounds_toArray, List.set_cons_zero, List.set_cons_succ, i64_w, i32_w]
        rfl
      refine pure_ (i := 13) (N := some 64) (v := undef) (a' := ?_) #[true, true, true, true, true, true, true, true, true, true, true, true, true, true, false, false, false] rfl rfl (any_of HT_.out (by kernel_rfl)) (fun _ _ _ h => h) (Or.inr ⟨by rfl, rfl⟩) ?_ ?_
      rotate_left
      · simp only [Act.put, List.setIfInBounds_toArray, List.set_cons_zero, List.set_cons_succ, i64_w, i32_w]
        rfl
      refine pure_ (i := 14) (N := some 65) (v := undef) (a' := ?_) #[true, true, true, true, true, true, true, true, true, true, true, true, true, true, true, false, false] rfl rfl (any_of HT_.out (by kernel_rfl)) (fun _ _ _ h => h) (Or.inr ⟨by rfl, rfl⟩) ?_ ?_
      rotate_left
      · simp only [Act.put, List.setIfInBounds_toArray, List.set_cons_zero, List.set_cons_succ, i64_w, i32_w]
        rfl
      refine pure_ (i := 15) (N := some 66) (v := undef) (a' := ?_) #[true, true, true, true, true, true, true, true, true, true, true, true, true, true, true, true, false] rfl rfl (any_of HT_.out (by kernel_rfl)) (fun _ _ _ h => h) (Or.inr ⟨by rfl, rfl⟩) ?_ ?_
      rotate_left
      · simp only [Act.put, List.setIfInBounds_toArray, List.set_cons_zero, List.set_cons_succ, i64_w, i32_w]
        rfl
      refine pure_ (i := 16) (N := some 67) (v := ?_) (a' := ?_) #[true, true, true, true, true, true, true, true, true, true, true, true, true, true, true, true, true] rfl rfl (any_of HT_.out (by kernel_rfl)) (fun _ _ _ h => h) (Or.inl ⟨by rfl, ?_⟩) ?_ ?_
      rotate_left
      · intro w'
        go_simp
        with_reducible rfl
      rotate_left
      · simp only [Act.put, List.setIfInBounds_toArray, List.set_cons_zero, List.set_cons_succ, i64_w, i32_w]
        rfl
      refine done_ (done_of HT_.out (by kernel_rfl)) ?_
      try go_wp2
      go_ret3
      exact ⟨_, _, _, by first | rfl | (simp [errW_none, errW_some] <;> rfl) | (simp [*, errW_none, errW_some] <;> rfl), Kd.QM HO_6.out (fun _ hk => hk.1), Kd.R_V (Kd.RM HO_7.out (fun _ hk => ⟨hk.1, hk.2.1⟩)), Kd.R_V (Kd.RM HO_8.out (fun _ hk => ⟨hk.1, hk.2.1⟩)), by repeat (first | (with_reducible first | exact HB.out | apply below_alloc | apply pw_below_drewN | apply below_drew1 | refine below_set ?_ (IsS83.ge HI265.out)) | exact HB.out)⟩

end Go.Proofs.Ytnbeeogmaamgdaa.PFnCarry
