-- Written by a program of this session (wip/print2.py): the functions that the law reaches, plain, and the walks.
import Derived.Test.YtpaohkhmhdhibaaPFnOtherx0
import Derived.Test.YtpaohkhmhdhibaaPFnOtherx2
import Derived.Test.YtpaohkhmhdhibaaPFnOtherx10
import Derived.Test.YtpaohkhmhdhibaaPFnOtherx11
import Derived.Test.YtpaohkhmhdhibaaPFnOtherx13
namespace Go.Proofs.Ytpaohkhmhdhibaa.PFnOther
open Go.RowKit Go.Proofs.YtpaohkhmhdhibaaW.PrintWords Go.Proofs.YtpaohkhmhdhibaaW.PrintLast Go.Proofs.YtpaohkhmhdhibaaW.PrintMore
attribute [local go_sem] max2_int min2_int max_two min_two max_three min_three max_four min_four   -- for this text's walks alone
set_option linter.unusedVariables false
set_option linter.unusedSimpArgs false

/-! ### laws_minusOf: function 19 -/
def laws_minusOf.l0 : Nat → List Int → List Int → Int → Option (List Int)
  | 0, _, _, _ => none
  | k + 1, x0, x3, x4 => if x4 < (x0.length : Int) then (if 0 ≤ x4 then (if x3.length < 17592186044416 then (laws_minusOf.l0 k x0 (x3 ++ [wrap64 (-(rd x0 x4))]) (wrap64 (x4 + 1))) else (none)) else (none)) else (some x3)
def laws_minusOf.f (k : Nat) (l0 : List Int) : Option (List Int) := laws_minusOf.l0 k l0 (([] : List Int)) 0
theorem laws_minusOf.mono_l : ∀ k, (∀ y0 y1 y2, LeO (laws_minusOf.l0 k y0 y1 y2) (laws_minusOf.l0 (k + 1) y0 y1 y2))
  | 0 => fun _ _ _ r h => by simp [laws_minusOf.l0] at h
  | k + 1 => by
    have ih0 := laws_minusOf.mono_l k
    · intro y0 y1 y2
      unfold laws_minusOf.l0
      repeat' first
      | (with_reducible exact ih0 _ _ _)
      | (with_reducible exact LeO.refl _)
      | (with_reducible exact LeO.none _)
      | (with_reducible refine LeO.ite ?_ ?_)
      | (with_reducible refine LeO.bind ?_ (fun _ => ?_))
      | exact ih0 _ _ _
      | exact LeO.none _
      | refine LeO.ite ?_ ?_
      | refine LeO.bind ?_ (fun _ => ?_)
theorem laws_minusOf.mono : ∀ a0 k, LeO (laws_minusOf.f k a0) (laws_minusOf.f (k + 1) a0) := by
  intro a0 k
  have ih0 := laws_minusOf.mono_l k
  unfold laws_minusOf.f
  repeat' first
      | (with_reducible exact ih0 _ _ _)
      | (with_reducible exact LeO.refl _)
      | (with_reducible exact LeO.none _)
      | (with_reducible refine LeO.ite ?_ ?_)
      | (with_reducible refine LeO.bind ?_ (fun _ => ?_))
      | exact ih0 _ _ _
      | exact LeO.none _
      | refine LeO.ite ?_ ?_
      | refine LeO.bind ?_ (fun _ => ?_)
set_option maxHeartbeats 8000000 in
set_option maxRecDepth 100000 in
theorem laws_minusOf.calls (k : Nat) (A0 : Option Addr) (c0 : Nat) (l0 : List Int) (r : List Int) (w : World) (hr0 : Kd.C (Kd.int .i64) w A0 l0.length l0) (hc0 : l0.length ≤ c0) (h : laws_minusOf.f k l0 = some r) :
    Calls Try.prog 19 #[.slice A0 l0.length c0] w fun e w' => ∃ v0_ : Value, e = .returned (v0_) ∧ Kd.R (Kd.int .i64) 3 w' w.heap.size (fun _ => True) v0_ r ∧ Below w.heap.size w w' := by
  have HR0 := Aside0.mk hr0; have HC0 := Aside0.mk hc0; clear hr0 hc0; have HB := Aside0.mk (Below.refl w.heap.size w); unfold laws_minusOf.f at h; have H := h; clear h; obtain ⟨y489, hy489⟩ : ∃ y_ : List Int, y_ = (([] : List Int)) := ⟨_, rfl⟩; replace H : (laws_minusOf.l0 k l0 y489 0) = some r := rH hy489 H; have Ny489 := Aside0.mk hy489; clear hy489; have H' := Aside0.mk H; clear H; go_enter Try.func19, Try.ntmps19
  go_wp2_with (first | ((with_reducible refine gate_dst (N := 5) rfl ?_); refine Kd.R_lit (Kd.int .i64) _ 3 ?hg (N := 5) ?hd (xs := ([] : List Int)) (inner := []) (ok := fun _ => True) (okp := fun _ => True) ?hr ?hp (fun _ hk => hk) trivial (Below.refl _ _) (Nat.le_refl _) (by simp) ?_; (case hd => rfl); (case hg => rfl); (case hr => first | (go_simp; done) | (go_simp; rfl)); (case hp => exact (Reps.none _ _)); intro v490 w2 ho3 hb hg_ hnew_; clear hg_ hnew_; (first | rw [← Ny489.out] at ho3 | (simp only [Int.reduceToNat] at ho3; rw [← Ny489.out] at ho3)); have HO491 := Aside0.mk (Kd.R_lower ho3 (below_size BU)); replace HB := BS hb; clear hb ho3))
  go_loopg [3, 4] k (fun kq v3 v4 w' => ∃ (x3_1 : List Int) (x4_1 : Int), v4 = .int .i64 x4_1 ∧ Aside0 (laws_minusOf.l0 kq l0 x3_1 x4_1 = some r) ∧ Aside0 (kq ≤ k) ∧ Aside0 (Kd.R (Kd.int .i64) 3 w' w.heap.size (fun _ => True) v3 x3_1) ∧ Aside0 (Below w.heap.size w w'))
  case atStart => exact ⟨(y489), (0), sR, H', ⟨Nat.le_refl _⟩, ⟨U HO491.out⟩, ⟨BU⟩⟩
  case round =>
    clear H'; obtain ⟨x3_1, x4_1, rfl, HA, HK1, HO_3, HB⟩ := hrel; cases gk with
    | zero => exact absurd HA.out (by simp [laws_minusOf.l0])
    | succ k1 =>
      have H := HA.out; clear HA; simp only [laws_minusOf.l0] at H
      by_cases c4 : x4_1 < (l0.length : Int)
      · rw [if_pos c4] at H
        have c4b0 : decide (x4_1 < (l0.length : Int)) = true := decide_eq_true c4; clear c4; obtain ⟨c5, H⟩ := ifN H; have c5b0 : decide (0 ≤ x4_1) = true := decide_eq_true c5; clear c5; obtain ⟨c6, H⟩ := ifN H; have LMc6 := Aside0.mk c6; clear c6; obtain ⟨y493, hy493⟩ : ∃ y_ : List Int, y_ = (x3_1 ++ [wrap64 (-(rd l0 x4_1))]) := ⟨_, rfl⟩; replace H : (laws_minusOf.l0 k1 l0 y493 (wrap64 (x4_1 + 1))) = some r := rH hy493 H; have Ny493 := Aside0.mk hy493; clear hy493; have H' := Aside0.mk H; clear H; have p492 : 0 ≤ (x4_1 : Int) := oD; have q492 : x4_1 < (l0.length : Int) := oD; obtain ⟨ad492, e492, hx492_0⟩ := Kd.at_int HR0.out x4_1 p492 q492; cases e492; replace hx492_0 := (HB.out.cell (World.block_lt_of_cell? w _ hx492_0)).trans hx492_0; replace p492 := eq_true p492; replace q492 := eq_true q492
        go_wp2_with (first | ((with_reducible refine gate_builtin (b := .append) (xs := #[.tmp 12, .tmp 18]) rfl ?_); at_builtin; refine Kd.R_append (Kd.int .i64) (w0 := w) w.heap.size rfl (.tmp 12) (.tmp 18) 23 3 (.int .i64 0) 8 rfl Try.underlying23 info3 rfl (by decide) (by omega) u3 x3_1 (wrap64 (-(rd l0 x4_1))) [.int .i64 (wrap64 (-(rd l0 x4_1)))] (fun _ => True) (fun _ => False) rfl rfl ?aP (fun _ hk => hk.elim) ?aF ?aO ?aB ?aS ?aL ?_; (case aP => exact rfl); (case aB => exact BU); (case aF => exact (fun _ _ => trivial)); (case aO => exact (U HO_3.out)); (case aS => exact (below_size BU)); (case aL => have := LMc6.out; omega); intro v494 w7 ho hb hg hat; rw [← Ny493.out] at ho; have n0_ := Aside0.mk (hb); have n1_ := Aside0.mk (ho); try clear HB; clear HO_3; have HB := n0_; have HO495 := n1_; clear n0_ n1_; clear ho hb hg hat))
        go_roundg k1
        case measure => have := HK1.out; omega
        case rel => exact ⟨(y493), (wrap64 (x4_1 + 1)), sR, H', ⟨by have := HK1.out; omega⟩, ⟨U HO495.out⟩, ⟨BU⟩⟩
      rw [if_neg c4] at H; have c4b0 : decide (x4_1 < (l0.length : Int)) = false := decide_eq_false c4; clear c4; obtain rfl := Option.some.inj H
      go_wp2
      go_ret
      exact ⟨_, eR, U HO_3.out, BU⟩

/-! ### laws_FnOther: function 4 -/
mutual
def laws_FnOther.j0 : Nat → List Int → List Int → List Int → List Int → Bool → List Int → Bool → Bool → Option (Bool)
  | 0, _, _, _, _, _, _, _, _ => none
  | k + 1, x3, x4, x5, x6, x7, x8, x9, x53 => if x53 = true then (if (x7 == x9) = true then ((laws_sameInts.f k x6 x8).bind fun t514 => (some t514)) else (none)) else ((laws_minusOf.f k x5).bind fun t515 => ((impl_ConicOther.f k x3 x4 t515).bind fun bt518 => ((impl_ZeroPlain.f k x3 x6).bind fun bt522 => (laws_FnOther.l0 k x4 x5 x6 bt518.1 bt518.2 bt522.1 bt522.2 0 0))))
def laws_FnOther.l0 : Nat → List Int → List Int → List Int → List Int → Bool → List Int → Bool → Int → Int → Option (Bool)
  | 0, _, _, _, _, _, _, _, _, _ => none
  | k + 1, x4, x5, x6, x10, x11, x12, x13, x14, x15 => if x15 < 3 then (if 0 ≤ x15 then (if x15 < (x4.length : Int) then (if 0 ≤ (Int.tmod (wrap64 (x15 + 1)) 3) then (if (Int.tmod (wrap64 (x15 + 1)) 3) < (x5.length : Int) then (if 0 ≤ (Int.tmod (wrap64 (x15 + 2)) 3) then (if (Int.tmod (wrap64 (x15 + 2)) 3) < (x6.length : Int) then (if (Int.tmod (wrap64 (x15 + 2)) 3) < (x5.length : Int) then (if (Int.tmod (wrap64 (x15 + 1)) 3) < (x6.length : Int) then (laws_FnOther.l0 k x4 x5 x6 x10 x11 x12 x13 (wrap64 (x14 + (wrap64 ((rd x4 x15) * (wrap64 ((wrap64 ((rd x5 (Int.tmod (wrap64 (x15 + 1)) 3)) * (rd x6 (Int.tmod (wrap64 (x15 + 2)) 3)))) - (wrap64 ((rd x5 (Int.tmod (wrap64 (x15 + 2)) 3)) * (rd x6 (Int.tmod (wrap64 (x15 + 1)) 3)))))))))) (wrap64 (x15 + 1))) else (none)) else (none)) else (none)) else (none)) else (none)) else (none)) else (none)) else (none)) else (if x11 = true then (if x13 = true then ((laws_sameInts.f k x10 x6).bind fun t531 => (if t531 = true then ((laws_sameInts.f k x12 x6).bind fun t532 => (if t532 = true then (some (x14 == 0)) else (none))) else (none))) else (none)) else (none))
end
def laws_FnOther.f (k : Nat) (l0 : List Int) : Option (Bool) := if (l0.length : Int) > 1048576 then (some true) else ((spec_DrawConicOther.f k l0).bind fun bt496 => ((impl_ConicOther.f k bt496.1 bt496.2.1 bt496.2.2).bind fun bt505 => ((spec_ConicOther.f k bt496.1 bt496.2.1 bt496.2.2).bind fun bt509 => (if (bt505.2 != bt509.2) = true then (laws_FnOther.j0 k bt496.1 bt496.2.1 bt496.2.2 bt505.1 bt505.2 bt509.1 bt509.2 true) else ((laws_sameInts.f k bt505.1 bt509.1).bind fun t513 => (if t513 = true then (laws_FnOther.j0 k bt496.1 bt496.2.1 bt496.2.2 bt505.1 bt505.2 bt509.1 bt509.2 (!bt505.2)) else (laws_FnOther.j0 k bt496.1 bt496.2.1 bt496.2.2 bt505.1 bt505.2 bt509.1 bt509.2 true)))))))
theorem laws_FnOther.mono_l : ∀ k, (∀ y0 y1 y2 y3 y4 y5 y6 y7, LeO (laws_FnOther.j0 k y0 y1 y2 y3 y4 y5 y6 y7) (laws_FnOther.j0 (k + 1) y0 y1 y2 y3 y4 y5 y6 y7)) ∧ (∀ y0 y1 y2 y3 y4 y5 y6 y7 y8, LeO (laws_FnOther.l0 k y0 y1 y2 y3 y4 y5 y6 y7 y8) (laws_FnOther.l0 (k + 1) y0 y1 y2 y3 y4 y5 y6 y7 y8))
  | 0 => ⟨fun _ _ _ _ _ _ _ _ r h => by simp [laws_FnOther.j0] at h, fun _ _ _ _ _ _ _ _ _ r h => by simp [laws_FnOther.l0] at h⟩
  | k + 1 => by
    obtain ⟨ih0, ih1⟩ := laws_FnOther.mono_l k
    refine ⟨?_, ?_⟩ <;> intros <;> (first | unfold laws_FnOther.j0 | unfold laws_FnOther.l0) <;> (repeat' first
      | (with_reducible exact ih0 _ _ _ _ _ _ _ _)
      | (with_reducible exact ih1 _ _ _ _ _ _ _ _ _)
      | (with_reducible exact impl_ConicOther.mono _ _ _ _)
      | (with_reducible exact impl_ZeroPlain.mono _ _ _)
      | (with_reducible exact laws_minusOf.mono _ _)
      | (with_reducible exact laws_sameInts.mono _ _ _)
      | (with_reducible exact spec_ConicOther.mono _ _ _ _)
      | (with_reducible exact spec_DrawConicOther.mono _ _)
      | (with_reducible exact LeO.refl _)
      | (with_reducible exact LeO.none _)
      | (with_reducible refine LeO.ite ?_ ?_)
      | (with_reducible refine LeO.bind ?_ (fun _ => ?_))
      | exact ih0 _ _ _ _ _ _ _ _
      | exact ih1 _ _ _ _ _ _ _ _ _
      | exact impl_ConicOther.mono _ _ _ _
      | exact impl_ZeroPlain.mono _ _ _
      | exact laws_minusOf.mono _ _
      | exact laws_sameInts.mono _ _ _
      | exact spec_ConicOther.mono _ _ _ _
      | exact spec_DrawConicOther.mono _ _
      | exact LeO.none _
      | refine LeO.ite ?_ ?_
      | refine LeO.bind ?_ (fun _ => ?_))
theorem laws_FnOther.mono : ∀ a0 k, LeO (laws_FnOther.f k a0) (laws_FnOther.f (k + 1) a0) := by
  intro a0 k
  obtain ⟨ih0, ih1⟩ := laws_FnOther.mono_l k
  unfold laws_FnOther.f
  repeat' first
      | (with_reducible exact ih0 _ _ _ _ _ _ _ _)
      | (with_reducible exact ih1 _ _ _ _ _ _ _ _ _)
      | (with_reducible exact impl_ConicOther.mono _ _ _ _)
      | (with_reducible exact impl_ZeroPlain.mono _ _ _)
      | (with_reducible exact laws_minusOf.mono _ _)
      | (with_reducible exact laws_sameInts.mono _ _ _)
      | (with_reducible exact spec_ConicOther.mono _ _ _ _)
      | (with_reducible exact spec_DrawConicOther.mono _ _)
      | (with_reducible exact LeO.refl _)
      | (with_reducible exact LeO.none _)
      | (with_reducible refine LeO.ite ?_ ?_)
      | (with_reducible refine LeO.bind ?_ (fun _ => ?_))
      | exact ih0 _ _ _ _ _ _ _ _
      | exact ih1 _ _ _ _ _ _ _ _ _
      | exact impl_ConicOther.mono _ _ _ _
      | exact impl_ZeroPlain.mono _ _ _
      | exact laws_minusOf.mono _ _
      | exact laws_sameInts.mono _ _ _
      | exact spec_ConicOther.mono _ _ _ _
      | exact spec_DrawConicOther.mono _ _
      | exact LeO.none _
      | refine LeO.ite ?_ ?_
      | refine LeO.bind ?_ (fun _ => ?_)
set_option maxHeartbeats 8000000 in
set_option maxRecDepth 100000 in
theorem laws_FnOther.calls (k : Nat) (A0 : Option Addr) (c0 : Nat) (l0 : List Int) (r : Bool) (w : World) (hr0 : Kd.C (Kd.int .u8) w A0 l0.length l0) (hc0 : l0.length ≤ c0) (h : laws_FnOther.f k l0 = some r) :
    Calls Try.prog 4 #[.slice A0 l0.length c0] w fun e w' => e = .returned (.bool r) ∧ Below w.heap.size w w' := by
  have HR0 := Aside0.mk hr0; have HC0 := Aside0.mk hc0; clear hr0 hc0; have HB := Aside0.mk (Below.refl w.heap.size w); unfold laws_FnOther.f at h; have H := h; clear h
  by_cases c2 : (l0.length : Int) > 1048576
  · rw [if_pos c2] at H
    have c2b0 : decide (1048576 < (l0.length : Int)) = true := decide_eq_true c2; have c2b1 : decide (1048576 < l0.length) = true := decide_eq_true (by omega); clear c2; obtain rfl := Option.some.inj H; go_enter Try.func4, Try.ntmps4
    go_wp2
    repeat (go_quiet (fail); try go_wp2)
    go_ret
    exact ⟨eR, BU⟩
  · rw [if_neg c2] at H
    have c2b0 : decide (1048576 < (l0.length : Int)) = false := decide_eq_false c2; have c2b1 : decide (1048576 < l0.length) = false := decide_eq_false (by omega); clear c2; obtain ⟨⟨t496, t497, t498⟩, A3, H⟩ := bnd H
    replace H : ((impl_ConicOther.f k t496 t497 t498).bind fun bt505 => ((spec_ConicOther.f k t496 t497 t498).bind fun bt509 => (if (bt505.2 != bt509.2) = true then (laws_FnOther.j0 k t496 t497 t498 bt505.1 bt505.2 bt509.1 bt509.2 true) else ((laws_sameInts.f k bt505.1 bt509.1).bind fun t513 => (if t513 = true then (laws_FnOther.j0 k t496 t497 t498 bt505.1 bt505.2 bt509.1 bt509.2 (!bt505.2)) else (laws_FnOther.j0 k t496 t497 t498 bt505.1 bt505.2 bt509.1 bt509.2 true)))))) = some r := H
    obtain ⟨⟨t505, t506⟩, A4, H⟩ := bnd H
    replace H : ((spec_ConicOther.f k t496 t497 t498).bind fun bt509 => (if (t506 != bt509.2) = true then (laws_FnOther.j0 k t496 t497 t498 t505 t506 bt509.1 bt509.2 true) else ((laws_sameInts.f k t505 bt509.1).bind fun t513 => (if t513 = true then (laws_FnOther.j0 k t496 t497 t498 t505 t506 bt509.1 bt509.2 (!t506)) else (laws_FnOther.j0 k t496 t497 t498 t505 t506 bt509.1 bt509.2 true))))) = some r := H
    obtain ⟨⟨t509, t510⟩, A5, H⟩ := bnd H; replace H : (if (t506 != t510) = true then (laws_FnOther.j0 k t496 t497 t498 t505 t506 t509 t510 true) else ((laws_sameInts.f k t505 t509).bind fun t513 => (if t513 = true then (laws_FnOther.j0 k t496 t497 t498 t505 t506 t509 t510 (!t506)) else (laws_FnOther.j0 k t496 t497 t498 t505 t506 t509 t510 true)))) = some r := H; have HC6 := Aside0.mk H; clear H; go_enter Try.func4, Try.ntmps4
    go_upto_region 6 with (first | (go_at_call 16; (with_reducible refine (spec_DrawConicOther.calls k _ _ l0 t496 t497 t498 _ ?side1 ?side2 A3.out).mono ?_); (case side1 => exact U HR0.out); (case side2 => exact HC0.out); rintro e w7 ⟨v499, v501, v503, rfl, ho0, ho1, ho2, hb⟩; have HO500 := Aside0.mk (Kd.R_lower ho0 (below_size BU)); have HO502 := Aside0.mk (Kd.R_lower ho1 (below_size BU)); have HO504 := Aside0.mk (Kd.R_lower ho2 (below_size BU)); replace HB := BS hb; (try clear hb); (try clear ho0); (try clear ho1); (try clear ho2); obtain ⟨Ao8, co8, eo8⟩ := Kd.R_slice HO500.out; subst eo8; obtain ⟨Ao9, co9, eo9⟩ := Kd.R_slice HO502.out; subst eo9; obtain ⟨Ao10, co10, eo10⟩ := Kd.R_slice HO504.out; subst eo10) | (go_at_call 17; (with_reducible refine (impl_ConicOther.calls k _ _ t496 _ _ t497 _ _ t498 t505 t506 _ ?side1 ?side2 ?side3 ?side4 ?side5 ?side6 A4.out).mono ?_); (case side1 => exact U ((Kd.R_reads' HO500.out).2.2)); (case side2 => exact (Kd.R_reads' HO500.out).2.1); (case side3 => exact U ((Kd.R_reads' HO502.out).2.2)); (case side4 => exact (Kd.R_reads' HO502.out).2.1); (case side5 => exact U ((Kd.R_reads' HO504.out).2.2)); (case side6 => exact (Kd.R_reads' HO504.out).2.1); rintro e w11 ⟨v507, rfl, ho0, hb⟩; have HO508 := Aside0.mk (Kd.R_lower (Kd.R_new' (Kd.R_new' (Kd.R_new' ho0 (Kd.R_lt (U HO500.out))) (Kd.R_lt (U HO502.out))) (Kd.R_lt (U HO504.out))) (below_size BU)); replace HO500 := Aside0.mk (Kd.R_elder' (U HO500.out) (Kd.R_base ho0) hb); replace HO502 := Aside0.mk (Kd.R_elder' (U HO502.out) (Kd.R_base ho0) hb); replace HO504 := Aside0.mk (Kd.R_elder' (U HO504.out) (Kd.R_base ho0) hb); replace HB := BS hb; (try clear hb); (try clear ho0)) | (go_at_call 18; (with_reducible refine (spec_ConicOther.calls k _ _ t496 _ _ t497 _ _ t498 t509 t510 _ ?side1 ?side2 ?side3 ?side4 ?side5 ?side6 A5.out).mono ?_); (case side1 => exact U ((Kd.R_reads' HO500.out).2.2)); (case side2 => exact (Kd.R_reads' HO500.out).2.1); (case side3 => exact U ((Kd.R_reads' HO502.out).2.2)); (case side4 => exact (Kd.R_reads' HO502.out).2.1); (case side5 => exact U ((Kd.R_reads' HO504.out).2.2)); (case side6 => exact (Kd.R_reads' HO504.out).2.1); rintro e w12 ⟨v511, rfl, ho0, hb⟩; have HO512 := Aside0.mk (Kd.R_lower (Kd.R_new' (Kd.R_new' (Kd.R_new' (Kd.R_new' ho0 (Kd.R_lt (U HO500.out))) (Kd.R_lt (U HO502.out))) (Kd.R_lt (U HO504.out))) (Kd.R_lt (U HO508.out))) (below_size BU)); replace HO500 := Aside0.mk (Kd.R_elder' (U HO500.out) (Kd.R_base ho0) hb); replace HO502 := Aside0.mk (Kd.R_elder' (U HO502.out) (Kd.R_base ho0) hb); replace HO504 := Aside0.mk (Kd.R_elder' (U HO504.out) (Kd.R_base ho0) hb); replace HO508 := Aside0.mk (Kd.R_elder' (U HO508.out) (Kd.R_base ho0) hb); replace HB := BS hb; (try clear hb); (try clear ho0)))
    repeat (go_quiet (first | (go_at_call 16; (with_reducible refine (spec_DrawConicOther.calls k _ _ l0 t496 t497 t498 _ ?side1 ?side2 A3.out).mono ?_); (case side1 => exact U HR0.out); (case side2 => exact HC0.out); rintro e w7 ⟨v499, v501, v503, rfl, ho0, ho1, ho2, hb⟩; have HO500 := Aside0.mk (Kd.R_lower ho0 (below_size BU)); have HO502 := Aside0.mk (Kd.R_lower ho1 (below_size BU)); have HO504 := Aside0.mk (Kd.R_lower ho2 (below_size BU)); replace HB := BS hb; (try clear hb); (try clear ho0); (try clear ho1); (try clear ho2); obtain ⟨Ao8, co8, eo8⟩ := Kd.R_slice HO500.out; subst eo8; obtain ⟨Ao9, co9, eo9⟩ := Kd.R_slice HO502.out; subst eo9; obtain ⟨Ao10, co10, eo10⟩ := Kd.R_slice HO504.out; subst eo10) | (go_at_call 17; (with_reducible refine (impl_ConicOther.calls k _ _ t496 _ _ t497 _ _ t498 t505 t506 _ ?side1 ?side2 ?side3 ?side4 ?side5 ?side6 A4.out).mono ?_); (case side1 => exact U ((Kd.R_reads' HO500.out).2.2)); (case side2 => exact (Kd.R_reads' HO500.out).2.1); (case side3 => exact U ((Kd.R_reads' HO502.out).2.2)); (case side4 => exact (Kd.R_reads' HO502.out).2.1); (case side5 => exact U ((Kd.R_reads' HO504.out).2.2)); (case side6 => exact (Kd.R_reads' HO504.out).2.1); rintro e w11 ⟨v507, rfl, ho0, hb⟩; have HO508 := Aside0.mk (Kd.R_lower (Kd.R_new' (Kd.R_new' (Kd.R_new' ho0 (Kd.R_lt (U HO500.out))) (Kd.R_lt (U HO502.out))) (Kd.R_lt (U HO504.out))) (below_size BU)); replace HO500 := Aside0.mk (Kd.R_elder' (U HO500.out) (Kd.R_base ho0) hb); replace HO502 := Aside0.mk (Kd.R_elder' (U HO502.out) (Kd.R_base ho0) hb); replace HO504 := Aside0.mk (Kd.R_elder' (U HO504.out) (Kd.R_base ho0) hb); replace HB := BS hb; (try clear hb); (try clear ho0)) | (go_at_call 18; (with_reducible refine (spec_ConicOther.calls k _ _ t496 _ _ t497 _ _ t498 t509 t510 _ ?side1 ?side2 ?side3 ?side4 ?side5 ?side6 A5.out).mono ?_); (case side1 => exact U ((Kd.R_reads' HO500.out).2.2)); (case side2 => exact (Kd.R_reads' HO500.out).2.1); (case side3 => exact U ((Kd.R_reads' HO502.out).2.2)); (case side4 => exact (Kd.R_reads' HO502.out).2.1); (case side5 => exact U ((Kd.R_reads' HO504.out).2.2)); (case side6 => exact (Kd.R_reads' HO504.out).2.1); rintro e w12 ⟨v511, rfl, ho0, hb⟩; have HO512 := Aside0.mk (Kd.R_lower (Kd.R_new' (Kd.R_new' (Kd.R_new' (Kd.R_new' ho0 (Kd.R_lt (U HO500.out))) (Kd.R_lt (U HO502.out))) (Kd.R_lt (U HO504.out))) (Kd.R_lt (U HO508.out))) (below_size BU)); replace HO500 := Aside0.mk (Kd.R_elder' (U HO500.out) (Kd.R_base ho0) hb); replace HO502 := Aside0.mk (Kd.R_elder' (U HO502.out) (Kd.R_base ho0) hb); replace HO504 := Aside0.mk (Kd.R_elder' (U HO504.out) (Kd.R_base ho0) hb); replace HO508 := Aside0.mk (Kd.R_elder' (U HO508.out) (Kd.R_base ho0) hb); replace HB := BS hb; (try clear hb); (try clear ho0))); go_upto_region 6 with (first | (go_at_call 16; (with_reducible refine (spec_DrawConicOther.calls k _ _ l0 t496 t497 t498 _ ?side1 ?side2 A3.out).mono ?_); (case side1 => exact U HR0.out); (case side2 => exact HC0.out); rintro e w7 ⟨v499, v501, v503, rfl, ho0, ho1, ho2, hb⟩; have HO500 := Aside0.mk (Kd.R_lower ho0 (below_size BU)); have HO502 := Aside0.mk (Kd.R_lower ho1 (below_size BU)); have HO504 := Aside0.mk (Kd.R_lower ho2 (below_size BU)); replace HB := BS hb; (try clear hb); (try clear ho0); (try clear ho1); (try clear ho2); obtain ⟨Ao8, co8, eo8⟩ := Kd.R_slice HO500.out; subst eo8; obtain ⟨Ao9, co9, eo9⟩ := Kd.R_slice HO502.out; subst eo9; obtain ⟨Ao10, co10, eo10⟩ := Kd.R_slice HO504.out; subst eo10) | (go_at_call 17; (with_reducible refine (impl_ConicOther.calls k _ _ t496 _ _ t497 _ _ t498 t505 t506 _ ?side1 ?side2 ?side3 ?side4 ?side5 ?side6 A4.out).mono ?_); (case side1 => exact U ((Kd.R_reads' HO500.out).2.2)); (case side2 => exact (Kd.R_reads' HO500.out).2.1); (case side3 => exact U ((Kd.R_reads' HO502.out).2.2)); (case side4 => exact (Kd.R_reads' HO502.out).2.1); (case side5 => exact U ((Kd.R_reads' HO504.out).2.2)); (case side6 => exact (Kd.R_reads' HO504.out).2.1); rintro e w11 ⟨v507, rfl, ho0, hb⟩; have HO508 := Aside0.mk (Kd.R_lower (Kd.R_new' (Kd.R_new' (Kd.R_new' ho0 (Kd.R_lt (U HO500.out))) (Kd.R_lt (U HO502.out))) (Kd.R_lt (U HO504.out))) (below_size BU)); replace HO500 := Aside0.mk (Kd.R_elder' (U HO500.out) (Kd.R_base ho0) hb); replace HO502 := Aside0.mk (Kd.R_elder' (U HO502.out) (Kd.R_base ho0) hb); replace HO504 := Aside0.mk (Kd.R_elder' (U HO504.out) (Kd.R_base ho0) hb); replace HB := BS hb; (try clear hb); (try clear ho0)) | (go_at_call 18; (with_reducible refine (spec_ConicOther.calls k _ _ t496 _ _ t497 _ _ t498 t509 t510 _ ?side1 ?side2 ?side3 ?side4 ?side5 ?side6 A5.out).mono ?_); (case side1 => exact U ((Kd.R_reads' HO500.out).2.2)); (case side2 => exact (Kd.R_reads' HO500.out).2.1); (case side3 => exact U ((Kd.R_reads' HO502.out).2.2)); (case side4 => exact (Kd.R_reads' HO502.out).2.1); (case side5 => exact U ((Kd.R_reads' HO504.out).2.2)); (case side6 => exact (Kd.R_reads' HO504.out).2.1); rintro e w12 ⟨v511, rfl, ho0, hb⟩; have HO512 := Aside0.mk (Kd.R_lower (Kd.R_new' (Kd.R_new' (Kd.R_new' (Kd.R_new' ho0 (Kd.R_lt (U HO500.out))) (Kd.R_lt (U HO502.out))) (Kd.R_lt (U HO504.out))) (Kd.R_lt (U HO508.out))) (below_size BU)); replace HO500 := Aside0.mk (Kd.R_elder' (U HO500.out) (Kd.R_base ho0) hb); replace HO502 := Aside0.mk (Kd.R_elder' (U HO502.out) (Kd.R_base ho0) hb); replace HO504 := Aside0.mk (Kd.R_elder' (U HO504.out) (Kd.R_base ho0) hb); replace HO508 := Aside0.mk (Kd.R_elder' (U HO508.out) (Kd.R_base ho0) hb); replace HB := BS hb; (try clear hb); (try clear ho0))))
    (try simp only [Act.put, List.setIfInBounds_toArray, List.set_cons_zero, List.set_cons_succ])
    go_cut [53] (fun v53 wc => ∃ (kq : Nat) (x53_5 : Bool), v53 = .bool x53_5 ∧ Aside0 (laws_FnOther.j0 kq t496 t497 t498 t505 t506 t509 t510 x53_5 = some r) ∧ Aside0 (kq ≤ k) ∧ Aside0 (Kd.R (Kd.int .i64) 3 wc w.heap.size (fun k_ => some k_ ≠ ((.slice Ao9 t497.length co9) : Value).ownBlock ∧ some k_ ≠ ((.slice Ao10 t498.length co10) : Value).ownBlock ∧ some k_ ≠ (v507 : Value).ownBlock ∧ some k_ ≠ (v511 : Value).ownBlock) (.slice Ao8 t496.length co8) t496) ∧ Aside0 (Kd.R (Kd.int .i64) 3 wc w.heap.size (fun k_ => some k_ ≠ ((.slice Ao8 t496.length co8) : Value).ownBlock ∧ some k_ ≠ ((.slice Ao10 t498.length co10) : Value).ownBlock ∧ some k_ ≠ (v507 : Value).ownBlock ∧ some k_ ≠ (v511 : Value).ownBlock) (.slice Ao9 t497.length co9) t497) ∧ Aside0 (Kd.R (Kd.int .i64) 3 wc w.heap.size (fun k_ => some k_ ≠ ((.slice Ao8 t496.length co8) : Value).ownBlock ∧ some k_ ≠ ((.slice Ao9 t497.length co9) : Value).ownBlock ∧ some k_ ≠ (v507 : Value).ownBlock ∧ some k_ ≠ (v511 : Value).ownBlock) (.slice Ao10 t498.length co10) t498) ∧ Aside0 (Kd.R (Kd.int .i64) 3 wc w.heap.size (fun k_ => some k_ ≠ ((.slice Ao8 t496.length co8) : Value).ownBlock ∧ some k_ ≠ ((.slice Ao9 t497.length co9) : Value).ownBlock ∧ some k_ ≠ ((.slice Ao10 t498.length co10) : Value).ownBlock ∧ some k_ ≠ (v511 : Value).ownBlock) v507 t505) ∧ Aside0 (Kd.R (Kd.int .i64) 3 wc w.heap.size (fun k_ => some k_ ≠ ((.slice Ao8 t496.length co8) : Value).ownBlock ∧ some k_ ≠ ((.slice Ao9 t497.length co9) : Value).ownBlock ∧ some k_ ≠ ((.slice Ao10 t498.length co10) : Value).ownBlock ∧ some k_ ≠ (v507 : Value).ownBlock) v511 t509) ∧ Aside0 (Below w.heap.size w wc))
    case first =>
      have H := HC6.out; clear HC6
      by_cases c13 : (t506 != t510) = true
      · rw [if_pos c13] at H
        have c13b0 : (t506 != t510) = true := c13
        (try (have c13b1 : decide (t506 = t510) = false := by simpa using c13))
        (try (have c13b2 : (t506 == t510) = false := by simpa using c13))
        (try (have c13b3 : ¬ (t506 = t510) := by simpa using c13))
        clear c13
        (first | rw [c13b0] | (simp only [i64_w, i32_w]; rw [c13b0]) | skip)
        have H' := Aside0.mk H; clear H
        go_wp2
        repeat (go_quiet (fail); try go_wp2)
        go_meet
        case rel => exact ⟨_, (true), sR, H', ⟨oR⟩, ⟨Kd.RM HO500.out (fun _ hk => ⟨hk.1.1.1, ⟨hk.1.1.2, ⟨hk.1.2, hk.2⟩⟩⟩)⟩, ⟨Kd.RM HO502.out (fun _ hk => ⟨hk.1.1.1, ⟨hk.1.1.2, ⟨hk.1.2, hk.2⟩⟩⟩)⟩, ⟨Kd.RM HO504.out (fun _ hk => ⟨hk.1.1.1, ⟨hk.1.1.2, ⟨hk.1.2, hk.2⟩⟩⟩)⟩, ⟨Kd.RM HO508.out (fun _ hk => ⟨hk.1.1.1.2, ⟨hk.1.1.2, ⟨hk.1.2, hk.2⟩⟩⟩)⟩, ⟨Kd.RM HO512.out (fun _ hk => ⟨hk.1.1.1.2, ⟨hk.1.1.2, ⟨hk.1.2, hk.2⟩⟩⟩)⟩, ⟨BU⟩⟩
      · rw [if_neg c13] at H
        have c13b0 : (t506 != t510) = false := by simpa using c13
        (try (have c13b1 : decide (t506 = t510) = true := by simpa using c13))
        (try (have c13b2 : (t506 == t510) = true := by simpa using c13))
        clear c13
        (first | rw [c13b0] | (simp only [i64_w, i32_w]; rw [c13b0]) | skip)
        obtain ⟨t513, A14, H⟩ := bnd H
        by_cases c15 : t513 = true
        · subst c15
          replace H := ifT H; have H' := Aside0.mk H; clear H; obtain ⟨Ao16, co16, eo16⟩ := Kd.R_slice HO508.out; subst eo16; obtain ⟨Ao17, co17, eo17⟩ := Kd.R_slice HO512.out; subst eo17
          go_wp2_with (first | (go_at_call 15; (with_reducible refine (laws_sameInts.calls k _ _ t505 _ _ t509 true _ ?side1 ?side2 ?side3 ?side4 A14.out).mono ?_); (case side1 => exact U ((Kd.R_reads' HO508.out).2.2)); (case side2 => exact (Kd.R_reads' HO508.out).2.1); (case side3 => exact U ((Kd.R_reads' HO512.out).2.2)); (case side4 => exact (Kd.R_reads' HO512.out).2.1); rintro e w' ⟨rfl, ⟨nd, rfl⟩⟩; (try first | exact ⟨rfl, _, World.drewN_drewN _ _ _⟩ | exact ⟨rfl, _, Eq.trans (World.drewN_drewN _ _ _) (congrArg (World.drewN _) (Nat.add_assoc _ _ _))⟩)))
          repeat (go_quiet (first | (go_at_call 15; (with_reducible refine (laws_sameInts.calls k _ _ t505 _ _ t509 true _ ?side1 ?side2 ?side3 ?side4 A14.out).mono ?_); (case side1 => exact U ((Kd.R_reads' HO508.out).2.2)); (case side2 => exact (Kd.R_reads' HO508.out).2.1); (case side3 => exact U ((Kd.R_reads' HO512.out).2.2)); (case side4 => exact (Kd.R_reads' HO512.out).2.1); rintro e w' ⟨rfl, ⟨nd, rfl⟩⟩; (try first | exact ⟨rfl, _, World.drewN_drewN _ _ _⟩ | exact ⟨rfl, _, Eq.trans (World.drewN_drewN _ _ _) (congrArg (World.drewN _) (Nat.add_assoc _ _ _))⟩))); try go_wp2_with (first | (go_at_call 15; (with_reducible refine (laws_sameInts.calls k _ _ t505 _ _ t509 true _ ?side1 ?side2 ?side3 ?side4 A14.out).mono ?_); (case side1 => exact U ((Kd.R_reads' HO508.out).2.2)); (case side2 => exact (Kd.R_reads' HO508.out).2.1); (case side3 => exact U ((Kd.R_reads' HO512.out).2.2)); (case side4 => exact (Kd.R_reads' HO512.out).2.1); rintro e w' ⟨rfl, ⟨nd, rfl⟩⟩; (try first | exact ⟨rfl, _, World.drewN_drewN _ _ _⟩ | exact ⟨rfl, _, Eq.trans (World.drewN_drewN _ _ _) (congrArg (World.drewN _) (Nat.add_assoc _ _ _))⟩))))
          go_meet
          case rel => exact ⟨_, (!t506), sR, H', ⟨oR⟩, ⟨Kd.RM HO500.out (fun _ hk => ⟨hk.1.1.1, ⟨hk.1.1.2, ⟨hk.1.2, hk.2⟩⟩⟩)⟩, ⟨Kd.RM HO502.out (fun _ hk => ⟨hk.1.1.1, ⟨hk.1.1.2, ⟨hk.1.2, hk.2⟩⟩⟩)⟩, ⟨Kd.RM HO504.out (fun _ hk => ⟨hk.1.1.1, ⟨hk.1.1.2, ⟨hk.1.2, hk.2⟩⟩⟩)⟩, ⟨Kd.RM HO508.out (fun _ hk => ⟨hk.1.1.1.2, ⟨hk.1.1.2, ⟨hk.1.2, hk.2⟩⟩⟩)⟩, ⟨Kd.RM HO512.out (fun _ hk => ⟨hk.1.1.1.2, ⟨hk.1.1.2, ⟨hk.1.2, hk.2⟩⟩⟩)⟩, ⟨BU⟩⟩
        · replace c15 := Bool.eq_false_iff.mpr c15
          subst c15; replace H := ifF H; have H' := Aside0.mk H; clear H; obtain ⟨Ao18, co18, eo18⟩ := Kd.R_slice HO508.out; subst eo18; obtain ⟨Ao19, co19, eo19⟩ := Kd.R_slice HO512.out; subst eo19
          go_wp2_with (first | (go_at_call 15; (with_reducible refine (laws_sameInts.calls k _ _ t505 _ _ t509 false _ ?side1 ?side2 ?side3 ?side4 A14.out).mono ?_); (case side1 => exact U ((Kd.R_reads' HO508.out).2.2)); (case side2 => exact (Kd.R_reads' HO508.out).2.1); (case side3 => exact U ((Kd.R_reads' HO512.out).2.2)); (case side4 => exact (Kd.R_reads' HO512.out).2.1); rintro e w' ⟨rfl, ⟨nd, rfl⟩⟩; (try first | exact ⟨rfl, _, World.drewN_drewN _ _ _⟩ | exact ⟨rfl, _, Eq.trans (World.drewN_drewN _ _ _) (congrArg (World.drewN _) (Nat.add_assoc _ _ _))⟩)))
          repeat (go_quiet (first | (go_at_call 15; (with_reducible refine (laws_sameInts.calls k _ _ t505 _ _ t509 false _ ?side1 ?side2 ?side3 ?side4 A14.out).mono ?_); (case side1 => exact U ((Kd.R_reads' HO508.out).2.2)); (case side2 => exact (Kd.R_reads' HO508.out).2.1); (case side3 => exact U ((Kd.R_reads' HO512.out).2.2)); (case side4 => exact (Kd.R_reads' HO512.out).2.1); rintro e w' ⟨rfl, ⟨nd, rfl⟩⟩; (try first | exact ⟨rfl, _, World.drewN_drewN _ _ _⟩ | exact ⟨rfl, _, Eq.trans (World.drewN_drewN _ _ _) (congrArg (World.drewN _) (Nat.add_assoc _ _ _))⟩))); try go_wp2_with (first | (go_at_call 15; (with_reducible refine (laws_sameInts.calls k _ _ t505 _ _ t509 false _ ?side1 ?side2 ?side3 ?side4 A14.out).mono ?_); (case side1 => exact U ((Kd.R_reads' HO508.out).2.2)); (case side2 => exact (Kd.R_reads' HO508.out).2.1); (case side3 => exact U ((Kd.R_reads' HO512.out).2.2)); (case side4 => exact (Kd.R_reads' HO512.out).2.1); rintro e w' ⟨rfl, ⟨nd, rfl⟩⟩; (try first | exact ⟨rfl, _, World.drewN_drewN _ _ _⟩ | exact ⟨rfl, _, Eq.trans (World.drewN_drewN _ _ _) (congrArg (World.drewN _) (Nat.add_assoc _ _ _))⟩))))
          go_meet
          case rel => exact ⟨_, (true), sR, H', ⟨oR⟩, ⟨Kd.RM HO500.out (fun _ hk => ⟨hk.1.1.1, ⟨hk.1.1.2, ⟨hk.1.2, hk.2⟩⟩⟩)⟩, ⟨Kd.RM HO502.out (fun _ hk => ⟨hk.1.1.1, ⟨hk.1.1.2, ⟨hk.1.2, hk.2⟩⟩⟩)⟩, ⟨Kd.RM HO504.out (fun _ hk => ⟨hk.1.1.1, ⟨hk.1.1.2, ⟨hk.1.2, hk.2⟩⟩⟩)⟩, ⟨Kd.RM HO508.out (fun _ hk => ⟨hk.1.1.1.2, ⟨hk.1.1.2, ⟨hk.1.2, hk.2⟩⟩⟩)⟩, ⟨Kd.RM HO512.out (fun _ hk => ⟨hk.1.1.1.2, ⟨hk.1.1.2, ⟨hk.1.2, hk.2⟩⟩⟩)⟩, ⟨BU⟩⟩
    case rest =>
      clear HC6; (try clear c2); (try clear c2b0); (try clear c2b1); obtain ⟨kq, x53_5, rfl, HA, HJ5, HO_3, HO_4, HO_5, HO_6, HO_8, HB⟩ := hcut; cases kq with
      | zero => exact absurd HA.out (by simp [laws_FnOther.j0])
      | succ kj5 =>
        have H := HA.out; clear HA; simp only [laws_FnOther.j0] at H
        by_cases c20 : x53_5 = true
        · subst c20
          replace H := ifT H
          by_cases c21 : (t506 == t510) = true
          · rw [if_pos c21] at H
            have c21b0 : (t506 == t510) = true := c21
            (try (have c21b1 : decide (t506 = t510) = true := by simpa using c21))
            (try (have c21b2 : (t506 == t510) = true := by simpa using c21))
            clear c21; obtain ⟨t514, A22, H⟩ := bnd H; obtain rfl := Option.some.inj H; obtain ⟨Ao23, co23, eo23⟩ := Kd.R_slice HO_6.out; subst eo23; obtain ⟨Ao24, co24, eo24⟩ := Kd.R_slice HO_8.out; subst eo24
            go_wp2_with (first | (go_at_call 15; (with_reducible refine (laws_sameInts.calls kj5 _ _ t505 _ _ t509 t514 _ ?side1 ?side2 ?side3 ?side4 A22.out).mono ?_); (case side1 => exact U ((Kd.R_reads' HO_6.out).2.2)); (case side2 => exact (Kd.R_reads' HO_6.out).2.1); (case side3 => exact U ((Kd.R_reads' HO_8.out).2.2)); (case side4 => exact (Kd.R_reads' HO_8.out).2.1); rintro e w' ⟨rfl, ⟨nd, rfl⟩⟩; (try first | exact ⟨rfl, _, World.drewN_drewN _ _ _⟩ | exact ⟨rfl, _, Eq.trans (World.drewN_drewN _ _ _) (congrArg (World.drewN _) (Nat.add_assoc _ _ _))⟩)))
            repeat (go_quiet (first | (go_at_call 15; (with_reducible refine (laws_sameInts.calls kj5 _ _ t505 _ _ t509 t514 _ ?side1 ?side2 ?side3 ?side4 A22.out).mono ?_); (case side1 => exact U ((Kd.R_reads' HO_6.out).2.2)); (case side2 => exact (Kd.R_reads' HO_6.out).2.1); (case side3 => exact U ((Kd.R_reads' HO_8.out).2.2)); (case side4 => exact (Kd.R_reads' HO_8.out).2.1); rintro e w' ⟨rfl, ⟨nd, rfl⟩⟩; (try first | exact ⟨rfl, _, World.drewN_drewN _ _ _⟩ | exact ⟨rfl, _, Eq.trans (World.drewN_drewN _ _ _) (congrArg (World.drewN _) (Nat.add_assoc _ _ _))⟩))); try go_wp2_with (first | (go_at_call 15; (with_reducible refine (laws_sameInts.calls kj5 _ _ t505 _ _ t509 t514 _ ?side1 ?side2 ?side3 ?side4 A22.out).mono ?_); (case side1 => exact U ((Kd.R_reads' HO_6.out).2.2)); (case side2 => exact (Kd.R_reads' HO_6.out).2.1); (case side3 => exact U ((Kd.R_reads' HO_8.out).2.2)); (case side4 => exact (Kd.R_reads' HO_8.out).2.1); rintro e w' ⟨rfl, ⟨nd, rfl⟩⟩; (try first | exact ⟨rfl, _, World.drewN_drewN _ _ _⟩ | exact ⟨rfl, _, Eq.trans (World.drewN_drewN _ _ _) (congrArg (World.drewN _) (Nat.add_assoc _ _ _))⟩))))
            go_ret
            exact ⟨eR, BU⟩
          · rw [if_neg c21] at H
            exact absurd H (by simp)
        · replace c20 := Bool.eq_false_iff.mpr c20
          subst c20; replace H := ifF H; obtain ⟨t515, A25, H⟩ := bnd H; obtain ⟨⟨t518, t519⟩, A26, H⟩ := bnd H; replace H : ((impl_ZeroPlain.f kj5 t496 t505).bind fun bt522 => (laws_FnOther.l0 kj5 t497 t498 t505 t518 t519 bt522.1 bt522.2 0 0)) = some r := H; obtain ⟨⟨t522, t523⟩, A27, H⟩ := bnd H; replace H : (laws_FnOther.l0 kj5 t497 t498 t505 t518 t519 t522 t523 0 0) = some r := H; have H' := Aside0.mk H; clear H
          go_wp2_with (first | (go_at_call 19; (with_reducible refine (laws_minusOf.calls kj5 _ _ t498 t515 _ ?side1 ?side2 A25.out).mono ?_); (case side1 => exact U ((Kd.R_reads' HO_5.out).2.2)); (case side2 => exact (Kd.R_reads' HO_5.out).2.1); rintro e w28 ⟨v516, rfl, ho0, hb⟩; have HO517 := Aside0.mk (Kd.R_lower (Kd.R_new' (Kd.R_new' (Kd.R_new' (Kd.R_new' (Kd.R_new' ho0 (Kd.R_lt (U HO_3.out))) (Kd.R_lt (U HO_4.out))) (Kd.R_lt (U HO_5.out))) (Kd.R_lt (U HO_6.out))) (Kd.R_lt (U HO_8.out))) (below_size BU)); replace HO_3 := Aside0.mk (Kd.R_elder' (U HO_3.out) (Kd.R_base ho0) hb); replace HO_4 := Aside0.mk (Kd.R_elder' (U HO_4.out) (Kd.R_base ho0) hb); replace HO_5 := Aside0.mk (Kd.R_elder' (U HO_5.out) (Kd.R_base ho0) hb); replace HO_6 := Aside0.mk (Kd.R_elder' (U HO_6.out) (Kd.R_base ho0) hb); replace HO_8 := Aside0.mk (Kd.R_elder' (U HO_8.out) (Kd.R_base ho0) hb); replace HB := BS hb; (try clear hb); (try clear ho0); obtain ⟨Ao29, co29, eo29⟩ := Kd.R_slice HO517.out; subst eo29) | (go_at_call 17; (with_reducible refine (impl_ConicOther.calls kj5 _ _ t496 _ _ t497 _ _ t515 t518 t519 _ ?side1 ?side2 ?side3 ?side4 ?side5 ?side6 A26.out).mono ?_); (case side1 => exact U ((Kd.R_reads' HO_3.out).2.2)); (case side2 => exact (Kd.R_reads' HO_3.out).2.1); (case side3 => exact U ((Kd.R_reads' HO_4.out).2.2)); (case side4 => exact (Kd.R_reads' HO_4.out).2.1); (case side5 => exact U ((Kd.R_reads' HO517.out).2.2)); (case side6 => exact (Kd.R_reads' HO517.out).2.1); rintro e w30 ⟨v520, rfl, ho0, hb⟩; have HO521 := Aside0.mk (Kd.R_lower (Kd.R_new' (Kd.R_new' (Kd.R_new' (Kd.R_new' (Kd.R_new' (Kd.R_new' ho0 (Kd.R_lt (U HO_3.out))) (Kd.R_lt (U HO_4.out))) (Kd.R_lt (U HO_5.out))) (Kd.R_lt (U HO_6.out))) (Kd.R_lt (U HO_8.out))) (Kd.R_lt (U HO517.out))) (below_size BU)); replace HO_3 := Aside0.mk (Kd.R_elder' (U HO_3.out) (Kd.R_base ho0) hb); replace HO_4 := Aside0.mk (Kd.R_elder' (U HO_4.out) (Kd.R_base ho0) hb); replace HO_5 := Aside0.mk (Kd.R_elder' (U HO_5.out) (Kd.R_base ho0) hb); replace HO_6 := Aside0.mk (Kd.R_elder' (U HO_6.out) (Kd.R_base ho0) hb); replace HO_8 := Aside0.mk (Kd.R_elder' (U HO_8.out) (Kd.R_base ho0) hb); replace HO517 := Aside0.mk (Kd.R_elder' (U HO517.out) (Kd.R_base ho0) hb); replace HB := BS hb; (try clear hb); (try clear ho0); obtain ⟨Ao31, co31, eo31⟩ := Kd.R_slice HO_6.out; subst eo31) | (go_at_call 14; (with_reducible refine (impl_ZeroPlain.calls kj5 _ _ t496 _ _ t505 t522 t523 _ ?side1 ?side2 ?side3 ?side4 A27.out).mono ?_); (case side1 => exact U ((Kd.R_reads' HO_3.out).2.2)); (case side2 => exact (Kd.R_reads' HO_3.out).2.1); (case side3 => exact U ((Kd.R_reads' HO_6.out).2.2)); (case side4 => exact (Kd.R_reads' HO_6.out).2.1); rintro e w32 ⟨v524, rfl, ho0, hb⟩; have HO525 := Aside0.mk (Kd.R_lower (Kd.R_new' (Kd.R_new' (Kd.R_new' (Kd.R_new' (Kd.R_new' (Kd.R_new' (Kd.R_new' ho0 (Kd.R_lt (U HO_3.out))) (Kd.R_lt (U HO_4.out))) (Kd.R_lt (U HO_5.out))) (Kd.R_lt (U HO_6.out))) (Kd.R_lt (U HO_8.out))) (Kd.R_lt (U HO517.out))) (Kd.R_lt (U HO521.out))) (below_size BU)); replace HO_3 := Aside0.mk (Kd.R_elder' (U HO_3.out) (Kd.R_base ho0) hb); replace HO_4 := Aside0.mk (Kd.R_elder' (U HO_4.out) (Kd.R_base ho0) hb); replace HO_5 := Aside0.mk (Kd.R_elder' (U HO_5.out) (Kd.R_base ho0) hb); replace HO_6 := Aside0.mk (Kd.R_elder' (U HO_6.out) (Kd.R_base ho0) hb); replace HO_8 := Aside0.mk (Kd.R_elder' (U HO_8.out) (Kd.R_base ho0) hb); replace HO517 := Aside0.mk (Kd.R_elder' (U HO517.out) (Kd.R_base ho0) hb); replace HO521 := Aside0.mk (Kd.R_elder' (U HO521.out) (Kd.R_base ho0) hb); replace HB := BS hb; (try clear hb); (try clear ho0)))
          repeat (go_quiet (first | (go_at_call 19; (with_reducible refine (laws_minusOf.calls kj5 _ _ t498 t515 _ ?side1 ?side2 A25.out).mono ?_); (case side1 => exact U ((Kd.R_reads' HO_5.out).2.2)); (case side2 => exact (Kd.R_reads' HO_5.out).2.1); rintro e w28 ⟨v516, rfl, ho0, hb⟩; have HO517 := Aside0.mk (Kd.R_lower (Kd.R_new' (Kd.R_new' (Kd.R_new' (Kd.R_new' (Kd.R_new' ho0 (Kd.R_lt (U HO_3.out))) (Kd.R_lt (U HO_4.out))) (Kd.R_lt (U HO_5.out))) (Kd.R_lt (U HO_6.out))) (Kd.R_lt (U HO_8.out))) (below_size BU)); replace HO_3 := Aside0.mk (Kd.R_elder' (U HO_3.out) (Kd.R_base ho0) hb); replace HO_4 := Aside0.mk (Kd.R_elder' (U HO_4.out) (Kd.R_base ho0) hb); replace HO_5 := Aside0.mk (Kd.R_elder' (U HO_5.out) (Kd.R_base ho0) hb); replace HO_6 := Aside0.mk (Kd.R_elder' (U HO_6.out) (Kd.R_base ho0) hb); replace HO_8 := Aside0.mk (Kd.R_elder' (U HO_8.out) (Kd.R_base ho0) hb); replace HB := BS hb; (try clear hb); (try clear ho0); obtain ⟨Ao29, co29, eo29⟩ := Kd.R_slice HO517.out; subst eo29) | (go_at_call 17; (with_reducible refine (impl_ConicOther.calls kj5 _ _ t496 _ _ t497 _ _ t515 t518 t519 _ ?side1 ?side2 ?side3 ?side4 ?side5 ?side6 A26.out).mono ?_); (case side1 => exact U ((Kd.R_reads' HO_3.out).2.2)); (case side2 => exact (Kd.R_reads' HO_3.out).2.1); (case side3 => exact U ((Kd.R_reads' HO_4.out).2.2)); (case side4 => exact (Kd.R_reads' HO_4.out).2.1); (case side5 => exact U ((Kd.R_reads' HO517.out).2.2)); (case side6 => exact (Kd.R_reads' HO517.out).2.1); rintro e w30 ⟨v520, rfl, ho0, hb⟩; have HO521 := Aside0.mk (Kd.R_lower (Kd.R_new' (Kd.R_new' (Kd.R_new' (Kd.R_new' (Kd.R_new' (Kd.R_new' ho0 (Kd.R_lt (U HO_3.out))) (Kd.R_lt (U HO_4.out))) (Kd.R_lt (U HO_5.out))) (Kd.R_lt (U HO_6.out))) (Kd.R_lt (U HO_8.out))) (Kd.R_lt (U HO517.out))) (below_size BU)); replace HO_3 := Aside0.mk (Kd.R_elder' (U HO_3.out) (Kd.R_base ho0) hb); replace HO_4 := Aside0.mk (Kd.R_elder' (U HO_4.out) (Kd.R_base ho0) hb); replace HO_5 := Aside0.mk (Kd.R_elder' (U HO_5.out) (Kd.R_base ho0) hb); replace HO_6 := Aside0.mk (Kd.R_elder' (U HO_6.out) (Kd.R_base ho0) hb); replace HO_8 := Aside0.mk (Kd.R_elder' (U HO_8.out) (Kd.R_base ho0) hb); replace HO517 := Aside0.mk (Kd.R_elder' (U HO517.out) (Kd.R_base ho0) hb); replace HB := BS hb; (try clear hb); (try clear ho0); obtain ⟨Ao31, co31, eo31⟩ := Kd.R_slice HO_6.out; subst eo31) | (go_at_call 14; (with_reducible refine (impl_ZeroPlain.calls kj5 _ _ t496 _ _ t505 t522 t523 _ ?side1 ?side2 ?side3 ?side4 A27.out).mono ?_); (case side1 => exact U ((Kd.R_reads' HO_3.out).2.2)); (case side2 => exact (Kd.R_reads' HO_3.out).2.1); (case side3 => exact U ((Kd.R_reads' HO_6.out).2.2)); (case side4 => exact (Kd.R_reads' HO_6.out).2.1); rintro e w32 ⟨v524, rfl, ho0, hb⟩; have HO525 := Aside0.mk (Kd.R_lower (Kd.R_new' (Kd.R_new' (Kd.R_new' (Kd.R_new' (Kd.R_new' (Kd.R_new' (Kd.R_new' ho0 (Kd.R_lt (U HO_3.out))) (Kd.R_lt (U HO_4.out))) (Kd.R_lt (U HO_5.out))) (Kd.R_lt (U HO_6.out))) (Kd.R_lt (U HO_8.out))) (Kd.R_lt (U HO517.out))) (Kd.R_lt (U HO521.out))) (below_size BU)); replace HO_3 := Aside0.mk (Kd.R_elder' (U HO_3.out) (Kd.R_base ho0) hb); replace HO_4 := Aside0.mk (Kd.R_elder' (U HO_4.out) (Kd.R_base ho0) hb); replace HO_5 := Aside0.mk (Kd.R_elder' (U HO_5.out) (Kd.R_base ho0) hb); replace HO_6 := Aside0.mk (Kd.R_elder' (U HO_6.out) (Kd.R_base ho0) hb); replace HO_8 := Aside0.mk (Kd.R_elder' (U HO_8.out) (Kd.R_base ho0) hb); replace HO517 := Aside0.mk (Kd.R_elder' (U HO517.out) (Kd.R_base ho0) hb); replace HO521 := Aside0.mk (Kd.R_elder' (U HO521.out) (Kd.R_base ho0) hb); replace HB := BS hb; (try clear hb); (try clear ho0))); try go_wp2_with (first | (go_at_call 19; (with_reducible refine (laws_minusOf.calls kj5 _ _ t498 t515 _ ?side1 ?side2 A25.out).mono ?_); (case side1 => exact U ((Kd.R_reads' HO_5.out).2.2)); (case side2 => exact (Kd.R_reads' HO_5.out).2.1); rintro e w28 ⟨v516, rfl, ho0, hb⟩; have HO517 := Aside0.mk (Kd.R_lower (Kd.R_new' (Kd.R_new' (Kd.R_new' (Kd.R_new' (Kd.R_new' ho0 (Kd.R_lt (U HO_3.out))) (Kd.R_lt (U HO_4.out))) (Kd.R_lt (U HO_5.out))) (Kd.R_lt (U HO_6.out))) (Kd.R_lt (U HO_8.out))) (below_size BU)); replace HO_3 := Aside0.mk (Kd.R_elder' (U HO_3.out) (Kd.R_base ho0) hb); replace HO_4 := Aside0.mk (Kd.R_elder' (U HO_4.out) (Kd.R_base ho0) hb); replace HO_5 := Aside0.mk (Kd.R_elder' (U HO_5.out) (Kd.R_base ho0) hb); replace HO_6 := Aside0.mk (Kd.R_elder' (U HO_6.out) (Kd.R_base ho0) hb); replace HO_8 := Aside0.mk (Kd.R_elder' (U HO_8.out) (Kd.R_base ho0) hb); replace HB := BS hb; (try clear hb); (try clear ho0); obtain ⟨Ao29, co29, eo29⟩ := Kd.R_slice HO517.out; subst eo29) | (go_at_call 17; (with_reducible refine (impl_ConicOther.calls kj5 _ _ t496 _ _ t497 _ _ t515 t518 t519 _ ?side1 ?side2 ?side3 ?side4 ?side5 ?side6 A26.out).mono ?_); (case side1 => exact U ((Kd.R_reads' HO_3.out).2.2)); (case side2 => exact (Kd.R_reads' HO_3.out).2.1); (case side3 => exact U ((Kd.R_reads' HO_4.out).2.2)); (case side4 => exact (Kd.R_reads' HO_4.out).2.1); (case side5 => exact U ((Kd.R_reads' HO517.out).2.2)); (case side6 => exact (Kd.R_reads' HO517.out).2.1); rintro e w30 ⟨v520, rfl, ho0, hb⟩; have HO521 := Aside0.mk (Kd.R_lower (Kd.R_new' (Kd.R_new' (Kd.R_new' (Kd.R_new' (Kd.R_new' (Kd.R_new' ho0 (Kd.R_lt (U HO_3.out))) (Kd.R_lt (U HO_4.out))) (Kd.R_lt (U HO_5.out))) (Kd.R_lt (U HO_6.out))) (Kd.R_lt (U HO_8.out))) (Kd.R_lt (U HO517.out))) (below_size BU)); replace HO_3 := Aside0.mk (Kd.R_elder' (U HO_3.out) (Kd.R_base ho0) hb); replace HO_4 := Aside0.mk (Kd.R_elder' (U HO_4.out) (Kd.R_base ho0) hb); replace HO_5 := Aside0.mk (Kd.R_elder' (U HO_5.out) (Kd.R_base ho0) hb); replace HO_6 := Aside0.mk (Kd.R_elder' (U HO_6.out) (Kd.R_base ho0) hb); replace HO_8 := Aside0.mk (Kd.R_elder' (U HO_8.out) (Kd.R_base ho0) hb); replace HO517 := Aside0.mk (Kd.R_elder' (U HO517.out) (Kd.R_base ho0) hb); replace HB := BS hb; (try clear hb); (try clear ho0); obtain ⟨Ao31, co31, eo31⟩ := Kd.R_slice HO_6.out; subst eo31) | (go_at_call 14; (with_reducible refine (impl_ZeroPlain.calls kj5 _ _ t496 _ _ t505 t522 t523 _ ?side1 ?side2 ?side3 ?side4 A27.out).mono ?_); (case side1 => exact U ((Kd.R_reads' HO_3.out).2.2)); (case side2 => exact (Kd.R_reads' HO_3.out).2.1); (case side3 => exact U ((Kd.R_reads' HO_6.out).2.2)); (case side4 => exact (Kd.R_reads' HO_6.out).2.1); rintro e w32 ⟨v524, rfl, ho0, hb⟩; have HO525 := Aside0.mk (Kd.R_lower (Kd.R_new' (Kd.R_new' (Kd.R_new' (Kd.R_new' (Kd.R_new' (Kd.R_new' (Kd.R_new' ho0 (Kd.R_lt (U HO_3.out))) (Kd.R_lt (U HO_4.out))) (Kd.R_lt (U HO_5.out))) (Kd.R_lt (U HO_6.out))) (Kd.R_lt (U HO_8.out))) (Kd.R_lt (U HO517.out))) (Kd.R_lt (U HO521.out))) (below_size BU)); replace HO_3 := Aside0.mk (Kd.R_elder' (U HO_3.out) (Kd.R_base ho0) hb); replace HO_4 := Aside0.mk (Kd.R_elder' (U HO_4.out) (Kd.R_base ho0) hb); replace HO_5 := Aside0.mk (Kd.R_elder' (U HO_5.out) (Kd.R_base ho0) hb); replace HO_6 := Aside0.mk (Kd.R_elder' (U HO_6.out) (Kd.R_base ho0) hb); replace HO_8 := Aside0.mk (Kd.R_elder' (U HO_8.out) (Kd.R_base ho0) hb); replace HO517 := Aside0.mk (Kd.R_elder' (U HO517.out) (Kd.R_base ho0) hb); replace HO521 := Aside0.mk (Kd.R_elder' (U HO521.out) (Kd.R_base ho0) hb); replace HB := BS hb; (try clear hb); (try clear ho0))))
          go_loopg [14, 15] kj5 (fun kq v14 v15 w' => ∃ (x14_2 : Int) (x15_2 : Int), v14 = .int .i64 x14_2 ∧ v15 = .int .i64 x15_2 ∧ Aside0 (laws_FnOther.l0 kq t497 t498 t505 t518 t519 t522 t523 x14_2 x15_2 = some r) ∧ Aside0 (kq ≤ kj5) ∧ Aside0 (Kd.R (Kd.int .i64) 3 w' w.heap.size (fun k_ => some k_ ≠ ((.slice Ao10 t498.length co10) : Value).ownBlock ∧ some k_ ≠ ((.slice Ao31 t505.length co31) : Value).ownBlock ∧ some k_ ≠ (v520 : Value).ownBlock ∧ some k_ ≠ (v524 : Value).ownBlock) (.slice Ao9 t497.length co9) t497) ∧ Aside0 (Kd.R (Kd.int .i64) 3 w' w.heap.size (fun k_ => some k_ ≠ ((.slice Ao9 t497.length co9) : Value).ownBlock ∧ some k_ ≠ ((.slice Ao31 t505.length co31) : Value).ownBlock ∧ some k_ ≠ (v520 : Value).ownBlock ∧ some k_ ≠ (v524 : Value).ownBlock) (.slice Ao10 t498.length co10) t498) ∧ Aside0 (Kd.R (Kd.int .i64) 3 w' w.heap.size (fun k_ => some k_ ≠ ((.slice Ao9 t497.length co9) : Value).ownBlock ∧ some k_ ≠ ((.slice Ao10 t498.length co10) : Value).ownBlock ∧ some k_ ≠ (v520 : Value).ownBlock ∧ some k_ ≠ (v524 : Value).ownBlock) (.slice Ao31 t505.length co31) t505) ∧ Aside0 (Kd.R (Kd.int .i64) 3 w' w.heap.size (fun k_ => some k_ ≠ ((.slice Ao9 t497.length co9) : Value).ownBlock ∧ some k_ ≠ ((.slice Ao10 t498.length co10) : Value).ownBlock ∧ some k_ ≠ ((.slice Ao31 t505.length co31) : Value).ownBlock ∧ some k_ ≠ (v524 : Value).ownBlock) v520 t518) ∧ Aside0 (Kd.R (Kd.int .i64) 3 w' w.heap.size (fun k_ => some k_ ≠ ((.slice Ao9 t497.length co9) : Value).ownBlock ∧ some k_ ≠ ((.slice Ao10 t498.length co10) : Value).ownBlock ∧ some k_ ≠ ((.slice Ao31 t505.length co31) : Value).ownBlock ∧ some k_ ≠ (v520 : Value).ownBlock) v524 t522) ∧ Aside0 (Below w.heap.size w w'))
          case atStart => exact ⟨(0), (0), sR, sR, H', ⟨Nat.le_refl _⟩, ⟨Kd.RM HO_4.out (fun _ hk => ⟨hk.1.1.1.2.1, ⟨hk.1.1.1.2.2.1, ⟨hk.1.2, hk.2⟩⟩⟩)⟩, ⟨Kd.RM HO_5.out (fun _ hk => ⟨hk.1.1.1.2.1, ⟨hk.1.1.1.2.2.1, ⟨hk.1.2, hk.2⟩⟩⟩)⟩, ⟨Kd.RM HO_6.out (fun _ hk => ⟨hk.1.1.1.2.1, ⟨hk.1.1.1.2.2.1, ⟨hk.1.2, hk.2⟩⟩⟩)⟩, ⟨Kd.RM HO521.out (fun _ hk => ⟨hk.1.1.1.1.1.2, ⟨hk.1.1.1.1.2, ⟨hk.1.1.1.2, hk.2⟩⟩⟩)⟩, ⟨Kd.RM HO525.out (fun _ hk => ⟨hk.1.1.1.1.1.2, ⟨hk.1.1.1.1.2, ⟨hk.1.1.1.2, hk.2⟩⟩⟩)⟩, ⟨BU⟩⟩
          case round =>
            clear H'; (try clear c2); (try clear c2b0); (try clear c2b1); (try clear c20); obtain ⟨x14_2, x15_2, rfl, rfl, HA, HK2, HO_4, HO_5, HO_6, HO_10, HO_12, HB⟩ := hrel; cases gk with
            | zero => exact absurd HA.out (by simp [laws_FnOther.l0])
            | succ k2 =>
              have H := HA.out; clear HA; simp only [laws_FnOther.l0] at H
              by_cases c33 : x15_2 < 3
              · rw [if_pos c33] at H
                have c33b0 : decide (x15_2 < 3) = true := decide_eq_true c33; clear c33
                by_cases c34 : 0 ≤ x15_2
                · rw [if_pos c34] at H
                  have c34b0 : decide (0 ≤ x15_2) = true := decide_eq_true c34; clear c34
                  by_cases c35 : x15_2 < (t497.length : Int)
                  · rw [if_pos c35] at H
                    have c35b0 : decide (x15_2 < (t497.length : Int)) = true := decide_eq_true c35; clear c35; obtain ⟨ji36, hji36⟩ : ∃ j_ : Int, (Int.tmod (wrap64 (x15_2 + 1)) 3) = j_ := ⟨_, rfl⟩
                    replace H : (if 0 ≤ (ji36) then (if (ji36) < (t498.length : Int) then (if 0 ≤ (Int.tmod (wrap64 (x15_2 + 2)) 3) then (if (Int.tmod (wrap64 (x15_2 + 2)) 3) < (t505.length : Int) then (if (Int.tmod (wrap64 (x15_2 + 2)) 3) < (t498.length : Int) then (if (ji36) < (t505.length : Int) then (laws_FnOther.l0 k2 t497 t498 t505 t518 t519 t522 t523 (wrap64 (x14_2 + (wrap64 ((rd t497 x15_2) * (wrap64 ((wrap64 ((rd t498 (ji36)) * (rd t505 (Int.tmod (wrap64 (x15_2 + 2)) 3)))) - (wrap64 ((rd t498 (Int.tmod (wrap64 (x15_2 + 2)) 3)) * (rd t505 (ji36)))))))))) (wrap64 (x15_2 + 1))) else (none)) else (none)) else (none)) else (none)) else (none)) else (none)) = some r := by first | (rw [hji36] at H; exact H) | (simp only [hji36] at H ⊢; exact H)
                    by_cases c37 : 0 ≤ (ji36)
                    · rw [if_pos c37] at H
                      have c37b0 : decide (0 ≤ (ji36)) = true := decide_eq_true c37; clear c37
                      by_cases c38 : (ji36) < (t498.length : Int)
                      · rw [if_pos c38] at H
                        have c38b0 : decide ((ji36) < (t498.length : Int)) = true := decide_eq_true c38; clear c38; obtain ⟨ji39, hji39⟩ : ∃ j_ : Int, (Int.tmod (wrap64 (x15_2 + 2)) 3) = j_ := ⟨_, rfl⟩
                        replace H : (if 0 ≤ (ji39) then (if (ji39) < (t505.length : Int) then (if (ji39) < (t498.length : Int) then (if (ji36) < (t505.length : Int) then (laws_FnOther.l0 k2 t497 t498 t505 t518 t519 t522 t523 (wrap64 (x14_2 + (wrap64 ((rd t497 x15_2) * (wrap64 ((wrap64 ((rd t498 (ji36)) * (rd t505 (ji39)))) - (wrap64 ((rd t498 (ji39)) * (rd t505 (ji36)))))))))) (wrap64 (x15_2 + 1))) else (none)) else (none)) else (none)) else (none)) = some r := by first | (rw [hji39] at H; exact H) | (simp only [hji39] at H ⊢; exact H)
                        by_cases c40 : 0 ≤ (ji39)
                        · rw [if_pos c40] at H
                          have c40b0 : decide (0 ≤ (ji39)) = true := decide_eq_true c40; clear c40
                          by_cases c41 : (ji39) < (t505.length : Int)
                          · rw [if_pos c41] at H
                            have c41b0 : decide ((ji39) < (t505.length : Int)) = true := decide_eq_true c41; clear c41
                            by_cases c42 : (ji39) < (t498.length : Int)
                            · rw [if_pos c42] at H
                              have c42b0 : decide ((ji39) < (t498.length : Int)) = true := decide_eq_true c42; clear c42
                              by_cases c43 : (ji36) < (t505.length : Int)
                              · rw [if_pos c43] at H
                                have c43b0 : decide ((ji36) < (t505.length : Int)) = true := decide_eq_true c43; clear c43; have H' := Aside0.mk H; clear H; have p526 : 0 ≤ (x15_2 : Int) := oD; have q526 : x15_2 < (t497.length : Int) := oD; obtain ⟨ad526, e526, hx526_0⟩ := Kd.at_int (Kd.R_reads' HO_4.out).2.2 x15_2 p526 q526; cases e526; replace p526 := eq_true p526; replace q526 := eq_true q526; have p527 : 0 ≤ ((ji36) : Int) := oD; have q527 : (ji36) < (t498.length : Int) := oD; obtain ⟨ad527, e527, hx527_0⟩ := Kd.at_int (Kd.R_reads' HO_5.out).2.2 (ji36) p527 q527; cases e527; replace p527 := eq_true p527; replace q527 := eq_true q527; have p528 : 0 ≤ ((ji39) : Int) := oD; have q528 : (ji39) < (t505.length : Int) := oD; obtain ⟨ad528, e528, hx528_0⟩ := Kd.at_int (Kd.R_reads' HO_6.out).2.2 (ji39) p528 q528; cases e528; replace p528 := eq_true p528; replace q528 := eq_true q528; have p529 : 0 ≤ ((ji39) : Int) := oD; have q529 : (ji39) < (t498.length : Int) := oD; obtain ⟨ad529, e529, hx529_0⟩ := Kd.at_int (Kd.R_reads' HO_5.out).2.2 (ji39) p529 q529; obtain rfl : ad527 = ad529 := (by injection e529); replace p529 := eq_true p529; replace q529 := eq_true q529; have p530 : 0 ≤ ((ji36) : Int) := oD; have q530 : (ji36) < (t505.length : Int) := oD; obtain ⟨ad530, e530, hx530_0⟩ := Kd.at_int (Kd.R_reads' HO_6.out).2.2 (ji36) p530 q530; obtain rfl : ad528 = ad530 := (by injection e530); replace p530 := eq_true p530; replace q530 := eq_true q530
                                go_wp2
                                repeat (go_quiet (fail); try go_wp2)
                                go_roundg k2
                                case measure => have := HJ5.out; have := HK2.out; omega
                                case rel => exact ⟨(wrap64 (x14_2 + (wrap64 ((rd t497 x15_2) * (wrap64 ((wrap64 ((rd t498 (ji36)) * (rd t505 (ji39)))) - (wrap64 ((rd t498 (ji39)) * (rd t505 (ji36)))))))))), (wrap64 (x15_2 + 1)), (by first | rfl | (simp; done) | (simp only [← hji36, ← hji39] <;> (first | rfl | simp)) | (simp [*]; done)), sR, H', ⟨by have := HJ5.out; have := HK2.out; omega⟩, ⟨U HO_4.out⟩, ⟨U HO_5.out⟩, ⟨U HO_6.out⟩, ⟨U HO_10.out⟩, ⟨U HO_12.out⟩, ⟨BU⟩⟩
                              · rw [if_neg c43] at H
                                exact absurd H (by simp)
                            · rw [if_neg c42] at H
                              exact absurd H (by simp)
                          · rw [if_neg c41] at H
                            exact absurd H (by simp)
                        · rw [if_neg c40] at H
                          exact absurd H (by simp)
                      · rw [if_neg c38] at H
                        exact absurd H (by simp)
                    · rw [if_neg c37] at H
                      exact absurd H (by simp)
                  · rw [if_neg c35] at H
                    exact absurd H (by simp)
                · rw [if_neg c34] at H
                  exact absurd H (by simp)
              · rw [if_neg c33] at H
                have c33b0 : decide (x15_2 < 3) = false := decide_eq_false c33; clear c33
                by_cases c44 : t519 = true
                · subst c44
                  replace H := ifT H
                  by_cases c45 : t523 = true
                  · subst c45
                    replace H := ifT H; obtain ⟨t531, A46, H⟩ := bnd H
                    by_cases c47 : t531 = true
                    · subst c47
                      replace H := ifT H; obtain ⟨t532, A48, H⟩ := bnd H
                      by_cases c49 : t532 = true
                      · subst c49
                        replace H := ifT H; obtain rfl := Option.some.inj H; obtain ⟨Ao50, co50, eo50⟩ := Kd.R_slice HO_10.out; subst eo50
                        go_wp2_with (first | (go_at_call 15; (with_reducible refine (laws_sameInts.calls k2 _ _ t518 _ _ t505 true _ ?side1 ?side2 ?side3 ?side4 A46.out).mono ?_); (case side1 => exact U ((Kd.R_reads' HO_10.out).2.2)); (case side2 => exact (Kd.R_reads' HO_10.out).2.1); (case side3 => exact U ((Kd.R_reads' HO_6.out).2.2)); (case side4 => exact (Kd.R_reads' HO_6.out).2.1); rintro e w' ⟨rfl, ⟨nd, rfl⟩⟩; (try first | exact ⟨rfl, _, World.drewN_drewN _ _ _⟩ | exact ⟨rfl, _, Eq.trans (World.drewN_drewN _ _ _) (congrArg (World.drewN _) (Nat.add_assoc _ _ _))⟩); obtain ⟨Ao51, co51, eo51⟩ := Kd.R_slice HO_12.out; subst eo51) | (go_at_call 15; (with_reducible refine (laws_sameInts.calls k2 _ _ t522 _ _ t505 true _ ?side1 ?side2 ?side3 ?side4 A48.out).mono ?_); (case side1 => exact U ((Kd.R_reads' HO_12.out).2.2)); (case side2 => exact (Kd.R_reads' HO_12.out).2.1); (case side3 => exact U ((Kd.R_reads' HO_6.out).2.2)); (case side4 => exact (Kd.R_reads' HO_6.out).2.1); rintro e w' ⟨rfl, ⟨nd, rfl⟩⟩; (try first | exact ⟨rfl, _, World.drewN_drewN _ _ _⟩ | exact ⟨rfl, _, Eq.trans (World.drewN_drewN _ _ _) (congrArg (World.drewN _) (Nat.add_assoc _ _ _))⟩)))
                        repeat (go_quiet (first | (go_at_call 15; (with_reducible refine (laws_sameInts.calls k2 _ _ t518 _ _ t505 true _ ?side1 ?side2 ?side3 ?side4 A46.out).mono ?_); (case side1 => exact U ((Kd.R_reads' HO_10.out).2.2)); (case side2 => exact (Kd.R_reads' HO_10.out).2.1); (case side3 => exact U ((Kd.R_reads' HO_6.out).2.2)); (case side4 => exact (Kd.R_reads' HO_6.out).2.1); rintro e w' ⟨rfl, ⟨nd, rfl⟩⟩; (try first | exact ⟨rfl, _, World.drewN_drewN _ _ _⟩ | exact ⟨rfl, _, Eq.trans (World.drewN_drewN _ _ _) (congrArg (World.drewN _) (Nat.add_assoc _ _ _))⟩); obtain ⟨Ao51, co51, eo51⟩ := Kd.R_slice HO_12.out; subst eo51) | (go_at_call 15; (with_reducible refine (laws_sameInts.calls k2 _ _ t522 _ _ t505 true _ ?side1 ?side2 ?side3 ?side4 A48.out).mono ?_); (case side1 => exact U ((Kd.R_reads' HO_12.out).2.2)); (case side2 => exact (Kd.R_reads' HO_12.out).2.1); (case side3 => exact U ((Kd.R_reads' HO_6.out).2.2)); (case side4 => exact (Kd.R_reads' HO_6.out).2.1); rintro e w' ⟨rfl, ⟨nd, rfl⟩⟩; (try first | exact ⟨rfl, _, World.drewN_drewN _ _ _⟩ | exact ⟨rfl, _, Eq.trans (World.drewN_drewN _ _ _) (congrArg (World.drewN _) (Nat.add_assoc _ _ _))⟩))); try go_wp2_with (first | (go_at_call 15; (with_reducible refine (laws_sameInts.calls k2 _ _ t518 _ _ t505 true _ ?side1 ?side2 ?side3 ?side4 A46.out).mono ?_); (case side1 => exact U ((Kd.R_reads' HO_10.out).2.2)); (case side2 => exact (Kd.R_reads' HO_10.out).2.1); (case side3 => exact U ((Kd.R_reads' HO_6.out).2.2)); (case side4 => exact (Kd.R_reads' HO_6.out).2.1); rintro e w' ⟨rfl, ⟨nd, rfl⟩⟩; (try first | exact ⟨rfl, _, World.drewN_drewN _ _ _⟩ | exact ⟨rfl, _, Eq.trans (World.drewN_drewN _ _ _) (congrArg (World.drewN _) (Nat.add_assoc _ _ _))⟩); obtain ⟨Ao51, co51, eo51⟩ := Kd.R_slice HO_12.out; subst eo51) | (go_at_call 15; (with_reducible refine (laws_sameInts.calls k2 _ _ t522 _ _ t505 true _ ?side1 ?side2 ?side3 ?side4 A48.out).mono ?_); (case side1 => exact U ((Kd.R_reads' HO_12.out).2.2)); (case side2 => exact (Kd.R_reads' HO_12.out).2.1); (case side3 => exact U ((Kd.R_reads' HO_6.out).2.2)); (case side4 => exact (Kd.R_reads' HO_6.out).2.1); rintro e w' ⟨rfl, ⟨nd, rfl⟩⟩; (try first | exact ⟨rfl, _, World.drewN_drewN _ _ _⟩ | exact ⟨rfl, _, Eq.trans (World.drewN_drewN _ _ _) (congrArg (World.drewN _) (Nat.add_assoc _ _ _))⟩))))
                        go_ret
                        exact ⟨eR, BU⟩
                      · replace c49 := Bool.eq_false_iff.mpr c49
                        subst c49; replace H := ifF H
                        exact absurd H (by simp)
                    · replace c47 := Bool.eq_false_iff.mpr c47
                      subst c47; replace H := ifF H
                      exact absurd H (by simp)
                  · replace c45 := Bool.eq_false_iff.mpr c45
                    subst c45; replace H := ifF H
                    exact absurd H (by simp)
                · replace c44 := Bool.eq_false_iff.mpr c44
                  subst c44; replace H := ifF H
                  exact absurd H (by simp)

/-- THE ONE PURE STATEMENT of laws_FnOther: yours. -/
def laws_FnOther.Pure : Prop := ∀ (l0 : List Int), l0.length ≤ maxLen → l0.length * 1 ≤ 140737488351232 → (∀ x ∈ l0, (Lit.int .u8 x).wf = true) → ∃ k, laws_FnOther.f k l0 = some true
theorem laws_FnOther.walk (P : laws_FnOther.Pure) (a0 : Option Addr) (len0 cap0 : Nat) (z0 : List Int) (w : World) (w0 : (a0 = none ∧ len0 = 0 ∧ cap0 = 0 ∧ z0 = []) ∨ ∃ x, a0 = some x ∧ len0 ≤ cap0 ∧ cap0 ≤ maxLen ∧ z0.length = cap0 ∧ (∀ i, i < z0.length → w.cell? (x.add i) = some (.int .u8 (z0.getD i 0))) ∧ ∀ n ∈ z0, (Lit.int .u8 n).wf = true) (y0 : len0 * 1 ≤ 140737488351232) :
    Calls Try.prog 4 #[.slice a0 len0 cap0] w fun e w' => e = .returned (.bool true) ∧ Below w.heap.size w w' := by
  obtain ⟨l0, rfl, hr0, hm0, hw0, hc0⟩ := ReadsInt.ofRowC w0
  obtain ⟨k, h⟩ := P l0 hm0 y0 hw0
  refine (laws_FnOther.calls k _ _ l0 true w (Kd.C_of_reads (d := (0 : Int)) (h1 := fun _ => rfl) hr0) hc0 h).mono ?_
  rintro e w' ⟨rfl, hd⟩
  exact ⟨rfl, hd⟩

end Go.Proofs.Ytpaohkhmhdhibaa.PFnOther
