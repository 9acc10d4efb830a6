import Derived.Test.YtpjgcjkodmkemaaPFnFindZerox0
import Derived.Test.YtpjgcjkodmkemaaPFnFindZerox1
import Derived.Test.YtpjgcjkodmkemaaPFnFindZerox2
import Derived.Test.YtpjgcjkodmkemaaPFnFindZerox3
namespace Go.Proofs.Ytpjgcjkodmkemaa.PFnFindZero
open Go.RowKit Go.Proofs.YtpjgcjkodmkemaaW.PrintWords Go.Proofs.YtpjgcjkodmkemaaW.PrintLast Go.Proofs.YtpjgcjkodmkemaaW.PrintMore
attribute [local go_sem] max2_int min2_int max_two min_two max_three min_three max_four min_four   -- for this text's walks alone
set_option linter.unusedVariables false
set_option linter.unusedSimpArgs false

/-! ### impl_placesOf: function 54 -/
mutual
def impl_placesOf.l0 : Nat → List Int → List Int → Int → Int → Option (List Int)
  | 0, _, _, _, _ => none
  | k + 1, x3, x9, x10, x11 => if x11 < x10 then (if 0 ≤ x11 then (if x11 < (x9.length : Int) then ((impl_primesOf.f k (rd x9 x11)).bind fun t143 => (impl_placesOf.l1 k x3 x9 x10 x11 t143 (t143.length : Int) 0)) else (none)) else (none)) else ((slices_Sort_int_int.f k x3).bind fun t141 => (some t141))
def impl_placesOf.l1 : Nat → List Int → List Int → Int → Int → List Int → Int → Int → Option (List Int)
  | 0, _, _, _, _, _, _, _ => none
  | k + 1, x3, x9, x10, x11, x16, x17, x18 => if x18 < x17 then (if 0 ≤ x18 then (if x18 < (x16.length : Int) then ((slices_Contains_int_int.f k x3 (rd x16 x18)).bind fun t147 => (if t147 = true then (impl_placesOf.l1 k x3 x9 x10 x11 x16 x17 (wrap64 (x18 + 1))) else (if x3.length < 17592186044416 then (impl_placesOf.l1 k (x3 ++ [rd x16 x18]) x9 x10 x11 x16 x17 (wrap64 (x18 + 1))) else (none)))) else (none)) else (none)) else (impl_placesOf.l0 k x3 x9 x10 (wrap64 (x11 + 1)))
end
def impl_placesOf.f (k : Nat) (l0 : List Int) : Option (List Int) := impl_placesOf.l0 k (([0, 2] : List Int)) l0 (l0.length : Int) 0
theorem impl_placesOf.mono_l : ∀ k, (∀ y0 y1 y2 y3, LeO (impl_placesOf.l0 k y0 y1 y2 y3) (impl_placesOf.l0 (k + 1) y0 y1 y2 y3)) ∧ (∀ y0 y1 y2 y3 y4 y5 y6, LeO (impl_placesOf.l1 k y0 y1 y2 y3 y4 y5 y6) (impl_placesOf.l1 (k + 1) y0 y1 y2 y3 y4 y5 y6))
  | 0 => ⟨fun _ _ _ _ r h => by simp [impl_placesOf.l0] at h, fun _ _ _ _ _ _ _ r h => by simp [impl_placesOf.l1] at h⟩
  | k + 1 => by
    obtain ⟨ih0, ih1⟩ := impl_placesOf.mono_l k
    refine ⟨?_, ?_⟩ <;> intros <;> (first | unfold impl_placesOf.l0 | unfold impl_placesOf.l1) <;> (with_reducible repeat' first | exact ih0 _ _ _ _ | exact ih1 _ _ _ _ _ _ _ | exact impl_primesOf.mono _ _ | exact slices_Contains_int_int.mono _ _ _ | exact slices_Sort_int_int.mono _ _ | exact LeO.refl _ | exact LeO.none _ | refine LeO.ite ?_ ?_ | refine LeO.bind ?_ (fun _ => ?_))
theorem impl_placesOf.mono : ∀ a0 k, LeO (impl_placesOf.f k a0) (impl_placesOf.f (k + 1) a0) := by
  intro a0 k
  obtain ⟨ih0, ih1⟩ := impl_placesOf.mono_l k
  unfold impl_placesOf.f
  with_reducible repeat' first | exact ih0 _ _ _ _ | exact ih1 _ _ _ _ _ _ _ | exact impl_primesOf.mono _ _ | exact slices_Contains_int_int.mono _ _ _ | exact slices_Sort_int_int.mono _ _ | exact LeO.refl _ | exact LeO.none _ | refine LeO.ite ?_ ?_ | refine LeO.bind ?_ (fun _ => ?_)
set_option maxHeartbeats 8000000 in
set_option maxRecDepth 100000 in
theorem impl_placesOf.calls (k : Nat) (A0 : Option Addr) (c0 : Nat) (l0 : List Int) (r : List Int) (w : World) (hr0 : Kd.C (Kd.int .i64) w A0 l0.length l0) (hc0 : l0.length ≤ c0) (h : impl_placesOf.f k l0 = some r) :
    Calls Try.prog 54 #[.slice A0 l0.length c0] w fun e w' => ∃ v0_ : Value, e = .returned (v0_) ∧ Kd.R (Kd.int .i64) 3 w' w.heap.size (fun _ => True) v0_ r ∧ Below w.heap.size w w' := by
  have HR0 := Aside0.mk hr0; have HC0 := Aside0.mk hc0; clear hr0 hc0; have HB := Aside0.mk (Below.refl w.heap.size w); unfold impl_placesOf.f at h; have H := h; clear h; obtain ⟨y138, hy138⟩ : ∃ y_ : List Int, y_ = (([0, 2] : List Int)) := ⟨_, rfl⟩; replace H : (impl_placesOf.l0 k y138 l0 (l0.length : Int) 0) = some r := rH hy138 H; have Ny138 := Aside0.mk hy138; clear hy138; have H' := Aside0.mk H; clear H; go_enter Try.func54, Try.ntmps54
  go_wp2_with (first | ((with_reducible refine gate_dst (N := 8) rfl ?_); refine Kd.R_lit (Kd.int .i64) _ 3 ?hg (N := 8) ?hd (xs := ([0, 2] : List Int)) (inner := [.int .i64 0, .int .i64 2]) (ok := fun _ => True) (okp := fun _ => True) ?hr ?hp (fun _ hk => hk) trivial (Below.refl _ _) (Nat.le_refl _) (by simp) ?_; (case hd => rfl); (case hg => rfl); (case hr => first | (go_simp; done) | (go_simp; rfl)); (case hp => exact (Reps.one (show Kd.M (Kd.int .i64) _ _ _ 0 [.int .i64 0] from rfl) (Reps.one (show Kd.M (Kd.int .i64) _ _ _ 2 [.int .i64 2] from rfl) (Reps.none _ _)))); intro v139 w2 ho3 hb hg_ hnew_; clear hg_ hnew_; (first | rw [← Ny138.out] at ho3 | (simp only [Int.reduceToNat] at ho3; rw [← Ny138.out] at ho3)); have HO140 := Aside0.mk (Kd.R_lower ho3 (below_size BU)); replace HB := BS hb; clear hb ho3))
  go_loopg [3, 11] k (fun kq v3 v11 w' => ∃ (x3_1 : List Int) (x11_1 : Int), v11 = .int .i64 x11_1 ∧ Aside0 (impl_placesOf.l0 kq x3_1 l0 (l0.length : Int) x11_1 = some r) ∧ Aside0 (kq ≤ k) ∧ Aside0 (Kd.R (Kd.int .i64) 3 w' w.heap.size (fun _ => True) v3 x3_1) ∧ Aside0 (Below w.heap.size w w'))
  case atStart => exact ⟨(y138), (0), sR, H', ⟨Nat.le_refl _⟩, ⟨U HO140.out⟩, ⟨BU⟩⟩
  case round =>
    clear H'; obtain ⟨x3_1, x11_1, rfl, HA, HK1, HO_3, HB⟩ := hrel; cases gk with
    | zero => exact absurd HA.out (by simp [impl_placesOf.l0])
    | succ k1 =>
      have H := HA.out; clear HA; simp only [impl_placesOf.l0] at H
      by_cases c4 : x11_1 < (l0.length : Int)
      · rw [if_pos c4] at H
        have c4b0 : decide (x11_1 < (l0.length : Int)) = true := decide_eq_true c4; clear c4; obtain ⟨c5, H⟩ := ifN H; have c5b0 : decide (0 ≤ x11_1) = true := decide_eq_true c5; clear c5; obtain ⟨c6, H⟩ := ifN H; have c6b0 : decide (x11_1 < (l0.length : Int)) = true := decide_eq_true c6; clear c6; obtain ⟨t143, A7, H⟩ := bnd H; have H' := Aside0.mk H; clear H; have p142 : 0 ≤ (x11_1 : Int) := oD; have q142 : x11_1 < (l0.length : Int) := oD; obtain ⟨ad142, e142, hx142_0⟩ := Kd.at_int HR0.out x11_1 p142 q142; cases e142; replace hx142_0 := (HB.out.cell (World.block_lt_of_cell? w _ hx142_0)).trans hx142_0; replace p142 := eq_true p142; replace q142 := eq_true q142
        go_wp2_with (first | ((with_reducible refine gate_callee (f := 64) rfl ?_); refine goesK (some 16) Try.func64 #[.int .i64 (rd l0 x11_1)] ?_; (with_reducible refine (impl_primesOf.calls k1 (rd l0 x11_1) t143 _ A7.out).mono ?_); rintro e w8 ⟨v144, rfl, ho0, hb⟩; refine ⟨_, rfl, ?_⟩; have HO145 := Aside0.mk (Kd.R_lower (Kd.R_new' ho0 (Kd.R_lt (U HO_3.out))) (below_size BU)); replace HO_3 := Aside0.mk (Kd.R_elder' (U HO_3.out) (Kd.R_base ho0) hb); replace HB := BS hb; (try clear hb); (try clear ho0); obtain ⟨Ao9, co9, eo9⟩ := Kd.R_slice HO145.out; subst eo9))
        go_loopg [3, 18] k1 (fun kq v3 v18 w' => ∃ (x3_2 : List Int) (x18_2 : Int), v18 = .int .i64 x18_2 ∧ Aside0 (impl_placesOf.l1 kq x3_2 l0 (l0.length : Int) x11_1 t143 (t143.length : Int) x18_2 = some r) ∧ Aside0 (kq ≤ k1) ∧ Aside0 (Kd.R (Kd.int .i64) 3 w' w.heap.size (fun k_ => some k_ ≠ ((.slice Ao9 t143.length co9) : Value).ownBlock) v3 x3_2) ∧ Aside0 (Kd.R (Kd.int .i64) 3 w' w.heap.size (fun k_ => some k_ ≠ (v3 : Value).ownBlock) (.slice Ao9 t143.length co9) t143) ∧ Aside0 (Below w.heap.size w w'))
        case atStart => exact ⟨(x3_1), (0), sR, H', ⟨Nat.le_refl _⟩, ⟨Kd.RM HO_3.out (fun _ hk => hk.2)⟩, ⟨Kd.RM HO145.out (fun _ hk => hk.2)⟩, ⟨BU⟩⟩
        case round =>
          clear H'; (try clear c4); (try clear c4b0); (try clear c5); (try clear c5b0); (try clear c6); (try clear c6b0); (try clear hx142_0); (try clear p142); (try clear q142); obtain ⟨x3_2, x18_2, rfl, HA, HK2, HO_3, HO_16, HB⟩ := hrel; cases gk with
          | zero => exact absurd HA.out (by simp [impl_placesOf.l1])
          | succ k2 =>
            have H := HA.out; clear HA; simp only [impl_placesOf.l1] at H
            by_cases c10 : x18_2 < (t143.length : Int)
            · rw [if_pos c10] at H
              have c10b0 : decide (x18_2 < (t143.length : Int)) = true := decide_eq_true c10; clear c10; obtain ⟨c11, H⟩ := ifN H; have c11b0 : decide (0 ≤ x18_2) = true := decide_eq_true c11; clear c11; obtain ⟨c12, H⟩ := ifN H; have c12b0 : decide (x18_2 < (t143.length : Int)) = true := decide_eq_true c12; clear c12; obtain ⟨t147, A13, H⟩ := bnd H
              by_cases c14 : t147 = true
              · subst c14
                replace H := ifT H; have H' := Aside0.mk H; clear H; have p146 : 0 ≤ (x18_2 : Int) := oD; have q146 : x18_2 < (t143.length : Int) := oD; obtain ⟨ad146, e146, hx146_0⟩ := Kd.at_int (Kd.R_reads' HO_16.out).2.2 x18_2 p146 q146; cases e146; replace p146 := eq_true p146; replace q146 := eq_true q146; obtain ⟨Ao15, co15, eo15⟩ := Kd.R_slice HO_3.out; subst eo15
                go_wp2_with (first | ((with_reducible refine gate_callee (f := 71) rfl ?_); refine goesK (some 24) Try.func71 #[.slice Ao15 x3_2.length co15, .int .i64 (rd t143 x18_2)] ?_; (with_reducible refine (slices_Contains_int_int.calls k2 _ _ x3_2 (rd t143 x18_2) true _ ?side1 ?side2 A13.out).mono ?_); (case side1 => exact U ((Kd.R_reads' HO_3.out).2.2)); (case side2 => exact (Kd.R_reads' HO_3.out).2.1); rintro e w' ⟨rfl, ⟨nd, rfl⟩⟩; refine ⟨_, rfl, ?_⟩))
                go_roundg k2
                case measure => have := HK1.out; have := HK2.out; omega
                case rel => exact ⟨(x3_2), (wrap64 (x18_2 + 1)), sR, H', ⟨by have := HK1.out; have := HK2.out; omega⟩, ⟨U HO_3.out⟩, ⟨U HO_16.out⟩, ⟨BU⟩⟩
              replace c14 := Bool.eq_false_iff.mpr c14; subst c14; replace H := ifF H; obtain ⟨c16, H⟩ := ifN H; have LMc16 := Aside0.mk c16; clear c16; obtain ⟨y148, hy148⟩ : ∃ y_ : List Int, y_ = (x3_2 ++ [rd t143 x18_2]) := ⟨_, rfl⟩; replace H : (impl_placesOf.l1 k2 y148 l0 (l0.length : Int) x11_1 t143 (t143.length : Int) (wrap64 (x18_2 + 1))) = some r := rH hy148 H; have Ny148 := Aside0.mk hy148; clear hy148; have H' := Aside0.mk H; clear H; have p146 : 0 ≤ (x18_2 : Int) := oD; have q146 : x18_2 < (t143.length : Int) := oD; obtain ⟨ad146, e146, hx146_0⟩ := Kd.at_int (Kd.R_reads' HO_16.out).2.2 x18_2 p146 q146; cases e146; replace p146 := eq_true p146; replace q146 := eq_true q146; obtain ⟨Ao17, co17, eo17⟩ := Kd.R_slice HO_3.out; subst eo17
              go_wp2_with (first | ((with_reducible refine gate_callee (f := 71) rfl ?_); refine goesK (some 24) Try.func71 #[.slice Ao17 x3_2.length co17, .int .i64 (rd t143 x18_2)] ?_; (with_reducible refine (slices_Contains_int_int.calls k2 _ _ x3_2 (rd t143 x18_2) false _ ?side1 ?side2 A13.out).mono ?_); (case side1 => exact U ((Kd.R_reads' HO_3.out).2.2)); (case side2 => exact (Kd.R_reads' HO_3.out).2.1); rintro e w' ⟨rfl, ⟨nd, rfl⟩⟩; refine ⟨_, rfl, ?_⟩) | ((with_reducible refine gate_builtin (b := .append) (xs := #[.tmp 26, .tmp 28]) rfl ?_); at_builtin; refine Kd.R_append (Kd.int .i64) (w0 := w) w.heap.size rfl (.tmp 26) (.tmp 28) 23 3 (.int .i64 0) 8 rfl Try.underlying23 info3 rfl (by decide) (by omega) (.slice Ao17 x3_2.length co17) x3_2 (rd t143 x18_2) [.int .i64 (rd t143 x18_2)] (fun k_ => some k_ ≠ (.slice (some ad146) t143.length co9 : Value).ownBlock) (fun _ => False) rfl rfl ?aP (fun _ hk => hk.elim) ?aF ?aO ?aB ?aS ?aL ?_; (case aP => exact rfl); (case aB => exact BU); (case aF => exact (fun k_ hk => Kd.fresh' (Kd.R_lt (U HO_16.out)) k_ hk)); (case aO => exact (U HO_3.out)); (case aS => exact (below_size BU)); (case aL => have := LMc16.out; omega); intro v149 w18 ho hb hg hat; rw [← Ny148.out] at ho; have n0_ := Aside0.mk (Kd.R_after (ok := (fun _ => True)) (Kd.RM HO_16.out (fun _ hk => ⟨trivial, hk⟩)) hg hat); have n1_ := Aside0.mk (hb); have n2_ := Aside0.mk (ho); clear HO_16; try clear HB; clear HO_3; have HO_16 := n0_; have HB := n1_; have HO150 := n2_; clear n0_ n1_ n2_; clear ho hb hg hat))
              go_roundg k2
              case measure => have := HK1.out; have := HK2.out; omega
              case rel => exact ⟨(y148), (wrap64 (x18_2 + 1)), sR, H', ⟨by have := HK1.out; have := HK2.out; omega⟩, ⟨U HO150.out⟩, ⟨Kd.RM HO_16.out (fun _ hk => hk.2)⟩, ⟨BU⟩⟩
            rw [if_neg c10] at H; have c10b0 : decide (x18_2 < (t143.length : Int)) = false := decide_eq_false c10; clear c10; have H' := Aside0.mk H; clear H
            go_wp2
            go_roundg k2
            case measure => have := HK1.out; have := HK2.out; omega
            case rel => exact ⟨(x3_2), (wrap64 (x11_1 + 1)), sR, H', ⟨by have := HK1.out; have := HK2.out; omega⟩, ⟨Kd.RM HO_3.out (fun _ hk => trivial)⟩, ⟨BU⟩⟩
      rw [if_neg c4] at H; have c4b0 : decide (x11_1 < (l0.length : Int)) = false := decide_eq_false c4; clear c4; obtain ⟨t141, A19, H⟩ := bnd H; obtain rfl := Option.some.inj H; obtain ⟨Ao20, co20, eo20⟩ := Kd.R_slice HO_3.out; subst eo20
      go_wp2_with (first | ((with_reducible refine gate_callee (f := 72) rfl ?_); refine goesK (some 33) Try.func72 #[.slice Ao20 x3_1.length co20] ?_; (with_reducible refine (slices_Sort_int_int.calls k1 (fun k_ => some k_ = (.slice Ao20 x3_1.length co20 : Value).ownBlock) (.slice Ao20 x3_1.length co20) x3_1 t141 w _ ?side1 ?side2 A19.out).mono ?_); (case side1 => repeat (first | (with_reducible first | exact HB.out | apply below_alloc | apply pw_below_drewN | apply below_drew1) | exact HB.out | exact Below.refl _ _)); (case side2 => exact Kd.R_tight rfl HO_3.out); rintro e w21 ⟨rfl, hy0, hb, hkp⟩; refine ⟨_, rfl, ?_⟩; replace HO_3 := Aside0.mk (Kd.R_reok rfl hy0 (fun k_ e_ => HO_3.out.1 k_ e_)); replace HB := Aside0.mk (hb); (try clear hb); (try clear hkp); (try clear hy0)))
      go_ret
      exact ⟨_, eR, U HO_3.out, BU⟩

/-! ### impl_FormPlaces: function 30 -/
def impl_FormPlaces.f (k : Nat) (l0 : List Int) : Option (List Int) := (impl_FormValid.f k l0).bind fun t151 => (if t151 = true then ((impl_placesOf.f k l0).bind fun t152 => (some t152)) else (some ([] : List Int)))
theorem impl_FormPlaces.mono : ∀ a0 k, LeO (impl_FormPlaces.f k a0) (impl_FormPlaces.f (k + 1) a0) := by
  intro a0 k
  unfold impl_FormPlaces.f
  with_reducible repeat' first | exact impl_FormValid.mono _ _ | exact impl_placesOf.mono _ _ | exact LeO.refl _ | exact LeO.none _ | refine LeO.ite ?_ ?_ | refine LeO.bind ?_ (fun _ => ?_)
set_option maxHeartbeats 8000000 in
set_option maxRecDepth 100000 in
theorem impl_FormPlaces.calls (k : Nat) (A0 : Option Addr) (c0 : Nat) (l0 : List Int) (r : List Int) (w : World) (hr0 : Kd.C (Kd.int .i64) w A0 l0.length l0) (hc0 : l0.length ≤ c0) (h : impl_FormPlaces.f k l0 = some r) :
    Calls Try.prog 30 #[.slice A0 l0.length c0] w fun e w' => ∃ v0_ : Value, e = .returned (v0_) ∧ Kd.R (Kd.int .i64) 3 w' w.heap.size (fun _ => True) v0_ r ∧ Below w.heap.size w w' := by
  have HR0 := Aside0.mk hr0; have HC0 := Aside0.mk hc0; clear hr0 hc0; have HB := Aside0.mk (Below.refl w.heap.size w); unfold impl_FormPlaces.f at h; have H := h; clear h; obtain ⟨t151, A2, H⟩ := bnd H
  by_cases c3 : t151 = true
  · subst c3
    replace H := ifT H; obtain ⟨t152, A4, H⟩ := bnd H; obtain rfl := Option.some.inj H; go_enter Try.func30, Try.ntmps30
    go_wp2_with (first | ((with_reducible refine gate_callee (f := 20) rfl ?_); refine goesK (some 4) Try.func20 #[.slice A0 l0.length c0] ?_; (with_reducible refine (impl_FormValid.calls k _ _ l0 true _ ?side1 ?side2 A2.out).mono ?_); (case side1 => exact U HR0.out); (case side2 => exact HC0.out); rintro e w5 ⟨rfl, hb⟩; refine ⟨_, rfl, ?_⟩; replace HB := BS hb; (try clear hb)) | ((with_reducible refine gate_callee (f := 54) rfl ?_); refine goesK (some 7) Try.func54 #[.slice A0 l0.length c0] ?_; (with_reducible refine (impl_placesOf.calls k _ _ l0 t152 _ ?side1 ?side2 A4.out).mono ?_); (case side1 => exact U (Kd.C_below HR0.out HB.out)); (case side2 => exact HC0.out); rintro e w6 ⟨v153, rfl, ho0, hb⟩; refine ⟨_, rfl, ?_⟩; have HO154 := Aside0.mk (Kd.R_lower ho0 (below_size BU)); replace HB := BS hb; (try clear hb); (try clear ho0)))
    go_ret
    exact ⟨_, eR, U HO154.out, BU⟩
  replace c3 := Bool.eq_false_iff.mpr c3; subst c3; replace H := ifF H; obtain rfl := Option.some.inj H; go_enter Try.func30, Try.ntmps30
  go_wp2_with (first | ((with_reducible refine gate_callee (f := 20) rfl ?_); refine goesK (some 4) Try.func20 #[.slice A0 l0.length c0] ?_; (with_reducible refine (impl_FormValid.calls k _ _ l0 false _ ?side1 ?side2 A2.out).mono ?_); (case side1 => exact U HR0.out); (case side2 => exact HC0.out); rintro e w7 ⟨rfl, hb⟩; refine ⟨_, rfl, ?_⟩; replace HB := BS hb; (try clear hb)))
  go_ret
  exact ⟨_, eR, by first | exact Kd.R_nil _ _ _ _ _ | exact Kd.N_nil _ _ _ _ _ | exact Kd.V_nil _ _ _ _ _ | exact Kd.Q_nil _ _ _ _ _ | exact Kd.S_nil _ _ _ _ _, BU⟩

/-! ### impl_product: function 55 -/
def impl_product.l0 : Nat → Int → List Int → Int → Int → Option (Int)
  | 0, _, _, _, _ => none
  | k + 1, x3, x6, x7, x8 => if x8 < x7 then (if 0 ≤ x8 then (if x8 < (x6.length : Int) then (impl_product.l0 k (wrap64 (x3 * (rd x6 x8))) x6 x7 (wrap64 (x8 + 1))) else (none)) else (none)) else (some x3)
def impl_product.f (k : Nat) (l0 : List Int) : Option (Int) := impl_product.l0 k 1 l0 (l0.length : Int) 0
theorem impl_product.mono_l : ∀ k, (∀ y0 y1 y2 y3, LeO (impl_product.l0 k y0 y1 y2 y3) (impl_product.l0 (k + 1) y0 y1 y2 y3))
  | 0 => fun _ _ _ _ r h => by simp [impl_product.l0] at h
  | k + 1 => by
    have ih0 := impl_product.mono_l k
    · intro y0 y1 y2 y3
      unfold impl_product.l0
      with_reducible repeat' first | exact ih0 _ _ _ _ | exact LeO.refl _ | exact LeO.none _ | refine LeO.ite ?_ ?_ | refine LeO.bind ?_ (fun _ => ?_)
theorem impl_product.mono : ∀ a0 k, LeO (impl_product.f k a0) (impl_product.f (k + 1) a0) := by
  intro a0 k
  have ih0 := impl_product.mono_l k
  unfold impl_product.f
  with_reducible repeat' first | exact ih0 _ _ _ _ | exact LeO.refl _ | exact LeO.none _ | refine LeO.ite ?_ ?_ | refine LeO.bind ?_ (fun _ => ?_)
set_option maxHeartbeats 8000000 in
set_option maxRecDepth 100000 in
theorem impl_product.calls (k : Nat) (A0 : Option Addr) (c0 : Nat) (l0 : List Int) (r : Int) (w : World) (hr0 : Kd.C (Kd.int .i64) w A0 l0.length l0) (hc0 : l0.length ≤ c0) (h : impl_product.f k l0 = some r) :
    Calls Try.prog 55 #[.slice A0 l0.length c0] w fun e w' => e = .returned (.int .i64 r) ∧ Drawn0 w w' := by
  have HR0 := Aside0.mk hr0; have HC0 := Aside0.mk hc0; clear hr0 hc0; unfold impl_product.f at h; have H := h; clear h; have H' := Aside0.mk H; clear H; go_enter Try.func55, Try.ntmps55
  go_wp2
  go_loopg [3, 8] k (fun kq v3 v8 w' => ∃ (x3_1 : Int) (x8_1 : Int), v3 = .int .i64 x3_1 ∧ v8 = .int .i64 x8_1 ∧ Aside0 (impl_product.l0 kq x3_1 l0 (l0.length : Int) x8_1 = some r) ∧ Aside0 (kq ≤ k) ∧ Drawn0 w w')
  case atStart => exact ⟨(1), (0), sR, sR, H', ⟨Nat.le_refl _⟩, by repeat (first | exact Drawn0.refl _ | apply Drawn0.step)⟩
  case round =>
    clear H'; obtain ⟨x3_1, x8_1, rfl, rfl, HA, HK1, ⟨m1, rfl⟩⟩ := hrel; cases gk with
    | zero => exact absurd HA.out (by simp [impl_product.l0])
    | succ k1 =>
      have H := HA.out; clear HA; simp only [impl_product.l0] at H
      by_cases c2 : x8_1 < (l0.length : Int)
      · rw [if_pos c2] at H
        have c2b0 : decide (x8_1 < (l0.length : Int)) = true := decide_eq_true c2; clear c2; obtain ⟨c3, H⟩ := ifN H; have c3b0 : decide (0 ≤ x8_1) = true := decide_eq_true c3; clear c3; obtain ⟨c4, H⟩ := ifN H; have c4b0 : decide (x8_1 < (l0.length : Int)) = true := decide_eq_true c4; clear c4; have H' := Aside0.mk H; clear H; have p155 : 0 ≤ (x8_1 : Int) := oD; have q155 : x8_1 < (l0.length : Int) := oD; obtain ⟨ad155, e155, hx155_0⟩ := Kd.at_int HR0.out x8_1 p155 q155; cases e155; replace p155 := eq_true p155; replace q155 := eq_true q155
        go_wp2
        go_roundg k1
        case measure => have := HK1.out; omega
        case rel => exact ⟨(wrap64 (x3_1 * (rd l0 x8_1))), (wrap64 (x8_1 + 1)), sR, sR, H', ⟨by have := HK1.out; omega⟩, by repeat (first | exact Drawn0.refl _ | apply Drawn0.step)⟩
      rw [if_neg c2] at H; have c2b0 : decide (x8_1 < (l0.length : Int)) = false := decide_eq_false c2; clear c2; obtain rfl := Option.some.inj H
      go_wp2
      go_ret
      exact ⟨by first | rfl | (simp; done) | (simp [*]; done), by repeat (first | exact Drawn0.refl _ | apply Drawn0.step)⟩

/-! ### impl_lessTerms: function 56 -/
def impl_lessTerms.l0 : Nat → Int → List Int → Int → Int → Option (Int)
  | 0, _, _, _, _ => none
  | k + 1, x3, x6, x7, x8 => if x8 < x7 then (if 0 ≤ x8 then (if x8 < (x6.length : Int) then (if (rd x6 x8) < 0 then (impl_lessTerms.l0 k (wrap64 (x3 + 1)) x6 x7 (wrap64 (x8 + 1))) else (impl_lessTerms.l0 k x3 x6 x7 (wrap64 (x8 + 1)))) else (none)) else (none)) else (some x3)
def impl_lessTerms.f (k : Nat) (l0 : List Int) : Option (Int) := impl_lessTerms.l0 k 0 l0 (l0.length : Int) 0
theorem impl_lessTerms.mono_l : ∀ k, (∀ y0 y1 y2 y3, LeO (impl_lessTerms.l0 k y0 y1 y2 y3) (impl_lessTerms.l0 (k + 1) y0 y1 y2 y3))
  | 0 => fun _ _ _ _ r h => by simp [impl_lessTerms.l0] at h
  | k + 1 => by
    have ih0 := impl_lessTerms.mono_l k
    · intro y0 y1 y2 y3
      unfold impl_lessTerms.l0
      with_reducible repeat' first | exact ih0 _ _ _ _ | exact LeO.refl _ | exact LeO.none _ | refine LeO.ite ?_ ?_ | refine LeO.bind ?_ (fun _ => ?_)
theorem impl_lessTerms.mono : ∀ a0 k, LeO (impl_lessTerms.f k a0) (impl_lessTerms.f (k + 1) a0) := by
  intro a0 k
  have ih0 := impl_lessTerms.mono_l k
  unfold impl_lessTerms.f
  with_reducible repeat' first | exact ih0 _ _ _ _ | exact LeO.refl _ | exact LeO.none _ | refine LeO.ite ?_ ?_ | refine LeO.bind ?_ (fun _ => ?_)
set_option maxHeartbeats 8000000 in
set_option maxRecDepth 100000 in
theorem impl_lessTerms.calls (k : Nat) (A0 : Option Addr) (c0 : Nat) (l0 : List Int) (r : Int) (w : World) (hr0 : Kd.C (Kd.int .i64) w A0 l0.length l0) (hc0 : l0.length ≤ c0) (h : impl_lessTerms.f k l0 = some r) :
    Calls Try.prog 56 #[.slice A0 l0.length c0] w fun e w' => e = .returned (.int .i64 r) ∧ Drawn0 w w' := by
  have HR0 := Aside0.mk hr0; have HC0 := Aside0.mk hc0; clear hr0 hc0; unfold impl_lessTerms.f at h; have H := h; clear h; have H' := Aside0.mk H; clear H; go_enter Try.func56, Try.ntmps56
  go_wp2
  go_loopg [3, 8] k (fun kq v3 v8 w' => ∃ (x3_1 : Int) (x8_1 : Int), v3 = .int .i64 x3_1 ∧ v8 = .int .i64 x8_1 ∧ Aside0 (impl_lessTerms.l0 kq x3_1 l0 (l0.length : Int) x8_1 = some r) ∧ Aside0 (kq ≤ k) ∧ Drawn0 w w')
  case atStart => exact ⟨(0), (0), sR, sR, H', ⟨Nat.le_refl _⟩, by repeat (first | exact Drawn0.refl _ | apply Drawn0.step)⟩
  case round =>
    clear H'; obtain ⟨x3_1, x8_1, rfl, rfl, HA, HK1, ⟨m1, rfl⟩⟩ := hrel; cases gk with
    | zero => exact absurd HA.out (by simp [impl_lessTerms.l0])
    | succ k1 =>
      have H := HA.out; clear HA; simp only [impl_lessTerms.l0] at H
      by_cases c2 : x8_1 < (l0.length : Int)
      · rw [if_pos c2] at H
        have c2b0 : decide (x8_1 < (l0.length : Int)) = true := decide_eq_true c2; clear c2; obtain ⟨c3, H⟩ := ifN H; have c3b0 : decide (0 ≤ x8_1) = true := decide_eq_true c3; clear c3; obtain ⟨c4, H⟩ := ifN H; have c4b0 : decide (x8_1 < (l0.length : Int)) = true := decide_eq_true c4; clear c4
        by_cases c5 : (rd l0 x8_1) < 0
        · rw [if_pos c5] at H
          have c5b0 : decide ((rd l0 x8_1) < 0) = true := decide_eq_true c5; clear c5; have H' := Aside0.mk H; clear H; have p156 : 0 ≤ (x8_1 : Int) := oD; have q156 : x8_1 < (l0.length : Int) := oD; obtain ⟨ad156, e156, hx156_0⟩ := Kd.at_int HR0.out x8_1 p156 q156; cases e156; replace p156 := eq_true p156; replace q156 := eq_true q156
          go_wp2
          go_roundg k1
          case measure => have := HK1.out; omega
          case rel => exact ⟨(wrap64 (x3_1 + 1)), (wrap64 (x8_1 + 1)), sR, sR, H', ⟨by have := HK1.out; omega⟩, by repeat (first | exact Drawn0.refl _ | apply Drawn0.step)⟩
        rw [if_neg c5] at H; have c5b0 : decide ((rd l0 x8_1) < 0) = false := decide_eq_false c5; clear c5; have H' := Aside0.mk H; clear H; have p156 : 0 ≤ (x8_1 : Int) := oD; have q156 : x8_1 < (l0.length : Int) := oD; obtain ⟨ad156, e156, hx156_0⟩ := Kd.at_int HR0.out x8_1 p156 q156; cases e156; replace p156 := eq_true p156; replace q156 := eq_true q156
        go_wp2
        go_roundg k1
        case measure => have := HK1.out; omega
        case rel => exact ⟨(x3_1), (wrap64 (x8_1 + 1)), sR, sR, H', ⟨by have := HK1.out; omega⟩, by repeat (first | exact Drawn0.refl _ | apply Drawn0.step)⟩
      rw [if_neg c2] at H; have c2b0 : decide (x8_1 < (l0.length : Int)) = false := decide_eq_false c2; clear c2; obtain rfl := Option.some.inj H
      go_wp2
      go_ret
      exact ⟨by first | rfl | (simp; done) | (simp [*]; done), by repeat (first | exact Drawn0.refl _ | apply Drawn0.step)⟩

/-! ### impl_rest: function 74 -/
def impl_rest.f (a0 : Int) (a1 : Int) : Option (Int) := if a1 = 0 then (none) else (some (Int.tmod (wrap64 ((Int.tmod a0 a1) + a1)) a1))
set_option maxHeartbeats 8000000 in
set_option maxRecDepth 100000 in
theorem impl_rest.calls (a0 : Int) (a1 : Int) (r : Int) (w : World) (h : impl_rest.f a0 a1 = some r) :
    Calls Try.prog 74 #[.int .i64 a0, .int .i64 a1] w fun e w' => e = .returned (.int .i64 r) ∧ Drawn0 w w' := by
  unfold impl_rest.f at h; have H := h; clear h; obtain ⟨c3, H⟩ := ifM H; have c3b0 : (a1 == 0) = false := beq_eq_false_iff_ne.mpr c3; have c3b1 : (a1 != 0) = true := bne_iff_ne.mpr c3; obtain rfl := Option.some.inj H; go_enter Try.func74, Try.ntmps74
  go_wp2
  go_ret
  exact ⟨by first | rfl | (simp; done) | (simp [*]; done), by repeat (first | exact Drawn0.refl _ | apply Drawn0.step)⟩

/-! ### impl_residue: function 75 -/
def impl_residue.l0 : Nat → Int → Int → Int → Option (Int)
  | 0, _, _, _ => none
  | k + 1, x1, x5, x6 => if x6 ≤ (wrap64 (Int.tdiv x1 2)) then (if x1 = 0 then (none) else (if (Int.tmod (wrap64 (x6 * x6)) x1) = x5 then (some 1) else (impl_residue.l0 k x1 x5 (wrap64 (x6 + 1))))) else (some (-1))
def impl_residue.f (k : Nat) (a0 : Int) (a1 : Int) : Option (Int) := (impl_rest.f a0 a1).bind fun t157 => (if t157 = 0 then (some 0) else (impl_residue.l0 k a1 t157 1))
theorem impl_residue.mono_l : ∀ k, (∀ y0 y1 y2, LeO (impl_residue.l0 k y0 y1 y2) (impl_residue.l0 (k + 1) y0 y1 y2))
  | 0 => fun _ _ _ r h => by simp [impl_residue.l0] at h
  | k + 1 => by
    have ih0 := impl_residue.mono_l k
    · intro y0 y1 y2
      unfold impl_residue.l0
      with_reducible repeat' first | exact ih0 _ _ _ | exact LeO.refl _ | exact LeO.none _ | refine LeO.ite ?_ ?_ | refine LeO.bind ?_ (fun _ => ?_)
theorem impl_residue.mono : ∀ a0 a1 k, LeO (impl_residue.f k a0 a1) (impl_residue.f (k + 1) a0 a1) := by
  intro a0 a1 k
  have ih0 := impl_residue.mono_l k
  unfold impl_residue.f
  with_reducible repeat' first | exact ih0 _ _ _ | exact LeO.refl _ | exact LeO.none _ | refine LeO.ite ?_ ?_ | refine LeO.bind ?_ (fun _ => ?_)
set_option maxHeartbeats 8000000 in
set_option maxRecDepth 100000 in
theorem impl_residue.calls (k : Nat) (a0 : Int) (a1 : Int) (r : Int) (w : World) (h : impl_residue.f k a0 a1 = some r) :
    Calls Try.prog 75 #[.int .i64 a0, .int .i64 a1] w fun e w' => e = .returned (.int .i64 r) ∧ Drawn0 w w' := by
  unfold impl_residue.f at h; have H := h; clear h; obtain ⟨t157, A3, H⟩ := bnd H
  by_cases c4 : t157 = 0
  · rw [if_pos c4] at H
    have c4b0 : (t157 == 0) = true := beq_iff_eq.mpr c4; have c4b1 : (t157 != 0) = false := bne_eq_false_iff_eq.mpr c4; clear c4; obtain rfl := Option.some.inj H; go_enter Try.func75, Try.ntmps75
    go_wp2_with (first | ((with_reducible refine gate_callee (f := 74) rfl ?_); refine goesK (some 9) Try.func74 #[.int .i64 a0, .int .i64 a1] ?_; (with_reducible refine (impl_rest.calls a0 a1 t157 _ A3.out).mono ?_); rintro e w' ⟨rfl, ⟨nd, rfl⟩⟩; refine ⟨_, rfl, ?_⟩))
    go_ret
    exact ⟨by first | rfl | (simp; done) | (simp [*]; done), by repeat (first | exact Drawn0.refl _ | apply Drawn0.step)⟩
  rw [if_neg c4] at H; have c4b0 : (t157 == 0) = false := beq_eq_false_iff_ne.mpr c4; have c4b1 : (t157 != 0) = true := bne_iff_ne.mpr c4; have H' := Aside0.mk H; clear H; go_enter Try.func75, Try.ntmps75
  go_wp2_with (first | ((with_reducible refine gate_callee (f := 74) rfl ?_); refine goesK (some 9) Try.func74 #[.int .i64 a0, .int .i64 a1] ?_; (with_reducible refine (impl_rest.calls a0 a1 t157 _ A3.out).mono ?_); rintro e w' ⟨rfl, ⟨nd, rfl⟩⟩; refine ⟨_, rfl, ?_⟩))
  go_loopg [6] k (fun kq v6 w' => ∃ (x6_1 : Int), v6 = .int .i64 x6_1 ∧ Aside0 (impl_residue.l0 kq a1 t157 x6_1 = some r) ∧ Aside0 (kq ≤ k) ∧ Drawn0 w w')
  case atStart => exact ⟨(1), sR, H', ⟨Nat.le_refl _⟩, by repeat (first | exact Drawn0.refl _ | apply Drawn0.step)⟩
  case round =>
    clear H'; (try clear c4); (try clear c4b0); (try clear c4b1); obtain ⟨x6_1, rfl, HA, HK1, ⟨m1, rfl⟩⟩ := hrel; cases gk with
    | zero => exact absurd HA.out (by simp [impl_residue.l0])
    | succ k1 =>
      have H := HA.out; clear HA; simp only [impl_residue.l0] at H
      by_cases c5 : x6_1 ≤ (wrap64 (Int.tdiv a1 2))
      · rw [if_pos c5] at H
        have c5b0 : decide (x6_1 ≤ (wrap64 (Int.tdiv a1 2))) = true := decide_eq_true c5; clear c5; obtain ⟨c6, H⟩ := ifM H; have c6b0 : (a1 == 0) = false := beq_eq_false_iff_ne.mpr c6; have c6b1 : (a1 != 0) = true := bne_iff_ne.mpr c6
        by_cases c7 : (Int.tmod (wrap64 (x6_1 * x6_1)) a1) = t157
        · rw [if_pos c7] at H
          have c7b0 : ((Int.tmod (wrap64 (x6_1 * x6_1)) a1) == t157) = true := beq_iff_eq.mpr c7; have c7b1 : ((Int.tmod (wrap64 (x6_1 * x6_1)) a1) != t157) = false := bne_eq_false_iff_eq.mpr c7; clear c7; obtain rfl := Option.some.inj H
          go_wp2
          go_ret
          exact ⟨by first | rfl | (simp; done) | (simp [*]; done), by repeat (first | exact Drawn0.refl _ | apply Drawn0.step)⟩
        rw [if_neg c7] at H; have c7b0 : ((Int.tmod (wrap64 (x6_1 * x6_1)) a1) == t157) = false := beq_eq_false_iff_ne.mpr c7; have c7b1 : ((Int.tmod (wrap64 (x6_1 * x6_1)) a1) != t157) = true := bne_iff_ne.mpr c7; have H' := Aside0.mk H; clear H
        go_wp2
        go_roundg k1
        case measure => have := HK1.out; omega
        case rel => exact ⟨(wrap64 (x6_1 + 1)), sR, H', ⟨by have := HK1.out; omega⟩, by repeat (first | exact Drawn0.refl _ | apply Drawn0.step)⟩
      rw [if_neg c5] at H; have c5b0 : decide (x6_1 ≤ (wrap64 (Int.tdiv a1 2))) = false := decide_eq_false c5; clear c5; obtain rfl := Option.some.inj H
      go_wp2
      go_ret
      exact ⟨by first | rfl | (simp; done) | (simp [*]; done), by repeat (first | exact Drawn0.refl _ | apply Drawn0.step)⟩

/-! ### impl_localSquare: function 57 -/
def impl_localSquare.f (k : Nat) (a0 : Int) (a1 : Int) : Option (Bool) := if a1 = 0 then (some (decide (a0 > 0))) else ((impl_split.f k a0 a1).bind fun bt158 => (if (Int.tmod bt158.1 2) = 0 then (if a1 = 2 then ((impl_rest.f bt158.2 8).bind fun t160 => (some (t160 == 1))) else ((impl_residue.f k bt158.2 a1).bind fun t161 => (some (t161 == 1)))) else (some false)))
theorem impl_localSquare.mono : ∀ a0 a1 k, LeO (impl_localSquare.f k a0 a1) (impl_localSquare.f (k + 1) a0 a1) := by
  intro a0 a1 k
  unfold impl_localSquare.f
  with_reducible repeat' first | exact impl_residue.mono _ _ _ | exact impl_split.mono _ _ _ | exact LeO.refl _ | exact LeO.none _ | refine LeO.ite ?_ ?_ | refine LeO.bind ?_ (fun _ => ?_)
set_option maxHeartbeats 8000000 in
set_option maxRecDepth 100000 in
theorem impl_localSquare.calls (k : Nat) (a0 : Int) (a1 : Int) (r : Bool) (w : World) (h : impl_localSquare.f k a0 a1 = some r) :
    Calls Try.prog 57 #[.int .i64 a0, .int .i64 a1] w fun e w' => e = .returned (.bool r) ∧ Drawn0 w w' := by
  unfold impl_localSquare.f at h; have H := h; clear h
  by_cases c3 : a1 = 0
  · rw [if_pos c3] at H
    have c3b0 : (a1 == 0) = true := beq_iff_eq.mpr c3; have c3b1 : (a1 != 0) = false := bne_eq_false_iff_eq.mpr c3; clear c3; obtain rfl := Option.some.inj H; go_enter Try.func57, Try.ntmps57
    go_wp2
    go_ret
    exact ⟨by first | rfl | (simp; done) | (simp [*]; done), by repeat (first | exact Drawn0.refl _ | apply Drawn0.step)⟩
  rw [if_neg c3] at H; have c3b0 : (a1 == 0) = false := beq_eq_false_iff_ne.mpr c3; have c3b1 : (a1 != 0) = true := bne_iff_ne.mpr c3; obtain ⟨⟨t158, t159⟩, A4, H⟩ := bnd H; replace H : (if (Int.tmod t158 2) = 0 then (if a1 = 2 then ((impl_rest.f t159 8).bind fun t160 => (some (t160 == 1))) else ((impl_residue.f k t159 a1).bind fun t161 => (some (t161 == 1)))) else (some false)) = some r := H
  by_cases c5 : (Int.tmod t158 2) = 0
  · rw [if_pos c5] at H
    have c5b0 : ((Int.tmod t158 2) == 0) = true := beq_iff_eq.mpr c5; have c5b1 : ((Int.tmod t158 2) != 0) = false := bne_eq_false_iff_eq.mpr c5; clear c5
    by_cases c6 : a1 = 2
    · rw [if_pos c6] at H
      have c6b0 : (a1 == 2) = true := beq_iff_eq.mpr c6; have c6b1 : (a1 != 2) = false := bne_eq_false_iff_eq.mpr c6; clear c6; obtain ⟨t160, A7, H⟩ := bnd H; obtain rfl := Option.some.inj H; go_enter Try.func57, Try.ntmps57
      go_wp2_with (first | ((with_reducible refine gate_callee (f := 73) rfl ?_); refine goesK (some 14) Try.func73 #[.int .i64 a0, .int .i64 a1] ?_; (with_reducible refine (impl_split.calls k a0 a1 t158 t159 _ A4.out).mono ?_); rintro e w' ⟨rfl, ⟨nd, rfl⟩⟩; refine ⟨_, rfl, ?_⟩) | ((with_reducible refine gate_callee (f := 74) rfl ?_); refine goesK (some 23) Try.func74 #[.int .i64 t159, .int .i64 8] ?_; (with_reducible refine (impl_rest.calls t159 8 t160 _ A7.out).mono ?_); rintro e w' ⟨rfl, ⟨nd, rfl⟩⟩; refine ⟨_, rfl, ?_⟩))
      go_ret
      exact ⟨by first | rfl | (simp; done) | (simp [*]; done), by repeat (first | exact Drawn0.refl _ | apply Drawn0.step)⟩
    rw [if_neg c6] at H; have c6b0 : (a1 == 2) = false := beq_eq_false_iff_ne.mpr c6; have c6b1 : (a1 != 2) = true := bne_iff_ne.mpr c6; obtain ⟨t161, A8, H⟩ := bnd H; obtain rfl := Option.some.inj H; go_enter Try.func57, Try.ntmps57
    go_wp2_with (first | ((with_reducible refine gate_callee (f := 73) rfl ?_); refine goesK (some 14) Try.func73 #[.int .i64 a0, .int .i64 a1] ?_; (with_reducible refine (impl_split.calls k a0 a1 t158 t159 _ A4.out).mono ?_); rintro e w' ⟨rfl, ⟨nd, rfl⟩⟩; refine ⟨_, rfl, ?_⟩) | ((with_reducible refine gate_callee (f := 75) rfl ?_); refine goesK (some 27) Try.func75 #[.int .i64 t159, .int .i64 a1] ?_; (with_reducible refine (impl_residue.calls k t159 a1 t161 _ A8.out).mono ?_); rintro e w' ⟨rfl, ⟨nd, rfl⟩⟩; refine ⟨_, rfl, ?_⟩))
    go_ret
    exact ⟨by first | rfl | (simp; done) | (simp [*]; done), by repeat (first | exact Drawn0.refl _ | apply Drawn0.step)⟩
  rw [if_neg c5] at H; have c5b0 : ((Int.tmod t158 2) == 0) = false := beq_eq_false_iff_ne.mpr c5; have c5b1 : ((Int.tmod t158 2) != 0) = true := bne_iff_ne.mpr c5; obtain rfl := Option.some.inj H; go_enter Try.func57, Try.ntmps57
  go_wp2_with (first | ((with_reducible refine gate_callee (f := 73) rfl ?_); refine goesK (some 14) Try.func73 #[.int .i64 a0, .int .i64 a1] ?_; (with_reducible refine (impl_split.calls k a0 a1 t158 t159 _ A4.out).mono ?_); rintro e w' ⟨rfl, ⟨nd, rfl⟩⟩; refine ⟨_, rfl, ?_⟩))
  go_ret
  exact ⟨by first | rfl | (simp; done) | (simp [*]; done), by repeat (first | exact Drawn0.refl _ | apply Drawn0.step)⟩

/-! ### impl_power: function 33 -/
def impl_power.l0 : Nat → Int → Int → Int → Int → Option (Int)
  | 0, _, _, _, _ => none
  | k + 1, x0, x5, x6, x7 => if x7 < x6 then (impl_power.l0 k x0 (wrap64 (x5 * x0)) x6 (wrap64 (x7 + 1))) else (some x5)
def impl_power.f (k : Nat) (a0 : Int) (a1 : Int) : Option (Int) := impl_power.l0 k a0 1 a1 0
theorem impl_power.mono_l : ∀ k, (∀ y0 y1 y2 y3, LeO (impl_power.l0 k y0 y1 y2 y3) (impl_power.l0 (k + 1) y0 y1 y2 y3))
  | 0 => fun _ _ _ _ r h => by simp [impl_power.l0] at h
  | k + 1 => by
    have ih0 := impl_power.mono_l k
    · intro y0 y1 y2 y3
      unfold impl_power.l0
      with_reducible repeat' first | exact ih0 _ _ _ _ | exact LeO.refl _ | exact LeO.none _ | refine LeO.ite ?_ ?_ | refine LeO.bind ?_ (fun _ => ?_)
theorem impl_power.mono : ∀ a0 a1 k, LeO (impl_power.f k a0 a1) (impl_power.f (k + 1) a0 a1) := by
  intro a0 a1 k
  have ih0 := impl_power.mono_l k
  unfold impl_power.f
  with_reducible repeat' first | exact ih0 _ _ _ _ | exact LeO.refl _ | exact LeO.none _ | refine LeO.ite ?_ ?_ | refine LeO.bind ?_ (fun _ => ?_)
set_option maxHeartbeats 8000000 in
set_option maxRecDepth 100000 in
theorem impl_power.calls (k : Nat) (a0 : Int) (a1 : Int) (r : Int) (w : World) (h : impl_power.f k a0 a1 = some r) :
    Calls Try.prog 33 #[.int .i64 a0, .int .i64 a1] w fun e w' => e = .returned (.int .i64 r) ∧ Drawn0 w w' := by
  unfold impl_power.f at h; have H := h; clear h; have H' := Aside0.mk H; clear H; go_enter Try.func33, Try.ntmps33
  go_wp2
  go_loopg [5, 7] k (fun kq v5 v7 w' => ∃ (x5_1 : Int) (x7_1 : Int), v5 = .int .i64 x5_1 ∧ v7 = .int .i64 x7_1 ∧ Aside0 (impl_power.l0 kq a0 x5_1 a1 x7_1 = some r) ∧ Aside0 (kq ≤ k) ∧ Drawn0 w w')
  case atStart => exact ⟨(1), (0), sR, sR, H', ⟨Nat.le_refl _⟩, by repeat (first | exact Drawn0.refl _ | apply Drawn0.step)⟩
  case round =>
    clear H'; obtain ⟨x5_1, x7_1, rfl, rfl, HA, HK1, ⟨m1, rfl⟩⟩ := hrel; cases gk with
    | zero => exact absurd HA.out (by simp [impl_power.l0])
    | succ k1 =>
      have H := HA.out; clear HA; simp only [impl_power.l0] at H
      by_cases c3 : x7_1 < a1
      · rw [if_pos c3] at H
        have c3b0 : decide (x7_1 < a1) = true := decide_eq_true c3; clear c3; have H' := Aside0.mk H; clear H
        go_wp2
        go_roundg k1
        case measure => have := HK1.out; omega
        case rel => exact ⟨(wrap64 (x5_1 * a0)), (wrap64 (x7_1 + 1)), sR, sR, H', ⟨by have := HK1.out; omega⟩, by repeat (first | exact Drawn0.refl _ | apply Drawn0.step)⟩
      rw [if_neg c3] at H; have c3b0 : decide (x7_1 < a1) = false := decide_eq_false c3; clear c3; obtain rfl := Option.some.inj H
      go_wp2
      go_ret
      exact ⟨by first | rfl | (simp; done) | (simp [*]; done), by repeat (first | exact Drawn0.refl _ | apply Drawn0.step)⟩

end Go.Proofs.Ytpjgcjkodmkemaa.PFnFindZero
