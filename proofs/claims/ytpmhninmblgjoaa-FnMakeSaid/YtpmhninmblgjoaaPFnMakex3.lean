-- PRINTED BY print.sh 35421559b90ae4d0a3588c463048766b98c2df88dd9212a6774a882060cdf62d: not written by this session
import Derived.Test.YtpmhninmblgjoaaPFnMakex0
import Derived.Test.YtpmhninmblgjoaaPFnMakex1
import Derived.Test.YtpmhninmblgjoaaPFnMakex2
namespace Go.Proofs.Ytpmhninmblgjoaa.PFnMake
open Go.RowKit Go.Proofs.YtpmhninmblgjoaaW.PrintWords Go.Proofs.YtpmhninmblgjoaaW.PrintLast Go.Proofs.YtpmhninmblgjoaaW.PrintMore
attribute [local go_sem] max2_int min2_int max_two min_two max_three min_three max_four min_four   -- for this text's walks alone
set_option linter.unusedVariables false
set_option linter.unusedSimpArgs false

/-! ### laws_FnMake: function 7 -/
mutual
def laws_FnMake.j0 : Nat → Int → Int → Int → Int → Int → Bool → Bool → Option (Bool)
  | 0, _, _, _, _, _, _, _ => none
  | k + 1, x3, x4, x5, x6, x7, x8, x62 => if x62 = true then (some false) else (if x8 = true then ((impl_TripleBack.f k x5 x6 x7).bind fun bt172 => (laws_FnMake.l0 k x3 x4 x5 x6 x7 bt172.1 bt172.2.1 bt172.2.2 0)) else (some true))
def laws_FnMake.l0 : Nat → Int → Int → Int → Int → Int → Int → Int → Bool → Int → Option (Bool)
  | 0, _, _, _, _, _, _, _, _, _ => none
  | k + 1, x3, x4, x5, x6, x7, x13, x14, x15, x16 => if x16 < 3 then ((impl_TripleChild.f k x5 x6 x7 x16).bind fun bt176 => (if bt176.2.2.2 = true then (if bt176.2.2.1 ≤ x7 then (some false) else ((impl_TripleIs.f k bt176.1 bt176.2.1 bt176.2.2.1).bind fun t180 => (if t180 = true then (laws_FnMake.l0 k x3 x4 x5 x6 x7 x13 x14 x15 (wrap64 (x16 + 1))) else (some false)))) else (laws_FnMake.l0 k x3 x4 x5 x6 x7 x13 x14 x15 (wrap64 (x16 + 1))))) else (if x15 = true then (if x13 = x3 then (if x14 = x4 then (if (Int.tmod (wrap64 (x3 + x4)) 2) = 1 then ((impl_GcdOf.f k x3 x4).bind fun t175 => (some (t175 == 1))) else (some false)) else (some false)) else (some false)) else (some false))
end
def laws_FnMake.f (k : Nat) (l0 : List Int) : Option (Bool) := if (l0.length : Int) > 1048576 then (some true) else ((spec_DrawTripleMake.f k l0).bind fun bt162 => ((impl_TripleMake.f k bt162.1 bt162.2).bind fun bt164 => ((spec_TripleMake.f k bt162.1 bt162.2).bind fun bt168 => (if (bt164.2.2.2 != bt168.2.2.2) = true then (laws_FnMake.j0 k bt162.1 bt162.2 bt164.1 bt164.2.1 bt164.2.2.1 bt164.2.2.2 true) else (if bt164.1 = bt168.1 then (if bt164.2.1 = bt168.2.1 then (laws_FnMake.j0 k bt162.1 bt162.2 bt164.1 bt164.2.1 bt164.2.2.1 bt164.2.2.2 (bt164.2.2.1 != bt168.2.2.1)) else (laws_FnMake.j0 k bt162.1 bt162.2 bt164.1 bt164.2.1 bt164.2.2.1 bt164.2.2.2 true)) else (laws_FnMake.j0 k bt162.1 bt162.2 bt164.1 bt164.2.1 bt164.2.2.1 bt164.2.2.2 true))))))
theorem laws_FnMake.mono_l : ∀ k, (∀ y0 y1 y2 y3 y4 y5 y6, LeO (laws_FnMake.j0 k y0 y1 y2 y3 y4 y5 y6) (laws_FnMake.j0 (k + 1) y0 y1 y2 y3 y4 y5 y6)) ∧ (∀ y0 y1 y2 y3 y4 y5 y6 y7 y8, LeO (laws_FnMake.l0 k y0 y1 y2 y3 y4 y5 y6 y7 y8) (laws_FnMake.l0 (k + 1) y0 y1 y2 y3 y4 y5 y6 y7 y8))
  | 0 => ⟨fun _ _ _ _ _ _ _ r h => by simp [laws_FnMake.j0] at h, fun _ _ _ _ _ _ _ _ _ r h => by simp [laws_FnMake.l0] at h⟩
  | k + 1 => by
    obtain ⟨ih0, ih1⟩ := laws_FnMake.mono_l k
    refine ⟨?_, ?_⟩
    · intro y0 y1 y2 y3 y4 y5 y6
      unfold laws_FnMake.j0
      repeat' first
      | (with_reducible exact ih0 _ _ _ _ _ _ _)
      | (with_reducible exact ih1 _ _ _ _ _ _ _ _ _)
      | (with_reducible exact impl_GcdOf.mono _ _ _)
      | (with_reducible exact impl_TripleBack.mono _ _ _ _)
      | (with_reducible exact impl_TripleChild.mono _ _ _ _ _)
      | (with_reducible exact impl_TripleIs.mono _ _ _ _)
      | (with_reducible exact impl_TripleMake.mono _ _ _)
      | (with_reducible exact spec_DrawTripleMake.mono _ _)
      | (with_reducible exact spec_TripleMake.mono _ _ _)
      | (with_reducible exact LeO.refl _)
      | (with_reducible exact LeO.none _)
      | (with_reducible refine LeO.ite ?_ ?_)
      | (with_reducible refine LeO.bind ?_ (fun _ => ?_))
      | exact ih0 _ _ _ _ _ _ _
      | exact ih1 _ _ _ _ _ _ _ _ _
      | exact impl_GcdOf.mono _ _ _
      | exact impl_TripleBack.mono _ _ _ _
      | exact impl_TripleChild.mono _ _ _ _ _
      | exact impl_TripleIs.mono _ _ _ _
      | exact impl_TripleMake.mono _ _ _
      | exact spec_DrawTripleMake.mono _ _
      | exact spec_TripleMake.mono _ _ _
      | exact LeO.none _
      | refine LeO.ite ?_ ?_
      | refine LeO.bind ?_ (fun _ => ?_)
    · intro y0 y1 y2 y3 y4 y5 y6 y7 y8
      unfold laws_FnMake.l0
      repeat' first
      | (with_reducible exact ih0 _ _ _ _ _ _ _)
      | (with_reducible exact ih1 _ _ _ _ _ _ _ _ _)
      | (with_reducible exact impl_GcdOf.mono _ _ _)
      | (with_reducible exact impl_TripleBack.mono _ _ _ _)
      | (with_reducible exact impl_TripleChild.mono _ _ _ _ _)
      | (with_reducible exact impl_TripleIs.mono _ _ _ _)
      | (with_reducible exact impl_TripleMake.mono _ _ _)
      | (with_reducible exact spec_DrawTripleMake.mono _ _)
      | (with_reducible exact spec_TripleMake.mono _ _ _)
      | (with_reducible exact LeO.refl _)
      | (with_reducible exact LeO.none _)
      | (with_reducible refine LeO.ite ?_ ?_)
      | (with_reducible refine LeO.bind ?_ (fun _ => ?_))
      | exact ih0 _ _ _ _ _ _ _
      | exact ih1 _ _ _ _ _ _ _ _ _
      | exact impl_GcdOf.mono _ _ _
      | exact impl_TripleBack.mono _ _ _ _
      | exact impl_TripleChild.mono _ _ _ _ _
      | exact impl_TripleIs.mono _ _ _ _
      | exact impl_TripleMake.mono _ _ _
      | exact spec_DrawTripleMake.mono _ _
      | exact spec_TripleMake.mono _ _ _
      | exact LeO.none _
      | refine LeO.ite ?_ ?_
      | refine LeO.bind ?_ (fun _ => ?_)
theorem laws_FnMake.mono : ∀ a0 k, LeO (laws_FnMake.f k a0) (laws_FnMake.f (k + 1) a0) := by
  intro a0 k
  obtain ⟨ih0, ih1⟩ := laws_FnMake.mono_l k
  unfold laws_FnMake.f
  repeat' first
      | (with_reducible exact ih0 _ _ _ _ _ _ _)
      | (with_reducible exact ih1 _ _ _ _ _ _ _ _ _)
      | (with_reducible exact impl_GcdOf.mono _ _ _)
      | (with_reducible exact impl_TripleBack.mono _ _ _ _)
      | (with_reducible exact impl_TripleChild.mono _ _ _ _ _)
      | (with_reducible exact impl_TripleIs.mono _ _ _ _)
      | (with_reducible exact impl_TripleMake.mono _ _ _)
      | (with_reducible exact spec_DrawTripleMake.mono _ _)
      | (with_reducible exact spec_TripleMake.mono _ _ _)
      | (with_reducible exact LeO.refl _)
      | (with_reducible exact LeO.none _)
      | (with_reducible refine LeO.ite ?_ ?_)
      | (with_reducible refine LeO.bind ?_ (fun _ => ?_))
      | exact ih0 _ _ _ _ _ _ _
      | exact ih1 _ _ _ _ _ _ _ _ _
      | exact impl_GcdOf.mono _ _ _
      | exact impl_TripleBack.mono _ _ _ _
      | exact impl_TripleChild.mono _ _ _ _ _
      | exact impl_TripleIs.mono _ _ _ _
      | exact impl_TripleMake.mono _ _ _
      | exact spec_DrawTripleMake.mono _ _
      | exact spec_TripleMake.mono _ _ _
      | exact LeO.none _
      | refine LeO.ite ?_ ?_
      | refine LeO.bind ?_ (fun _ => ?_)
set_option maxHeartbeats 8000000 in
set_option maxRecDepth 100000 in
theorem laws_FnMake.calls (k : Nat) (A0 : Option Addr) (c0 : Nat) (l0 : List Int) (r : Bool) (w : World) (hr0 : Kd.C (Kd.int .u8) w A0 l0.length l0) (hc0 : l0.length ≤ c0) (h : laws_FnMake.f k l0 = some r) :
    Calls Try.prog 7 #[.slice A0 l0.length c0] w fun e w' => e = .returned (.bool r) ∧ Below w.heap.size w w' := by
  have HR0 := Aside0.mk hr0
  have HC0 := Aside0.mk hc0
  clear hr0 hc0
  have HB := Aside0.mk (Below.refl w.heap.size w)
  have H : (if (l0.length : Int) > 1048576 then (some true) else ((spec_DrawTripleMake.f k l0).bind fun bt162 => ((impl_TripleMake.f k bt162.1 bt162.2).bind fun bt164 => ((spec_TripleMake.f k bt162.1 bt162.2).bind fun bt168 => (if (bt164.2.2.2 != bt168.2.2.2) = true then (laws_FnMake.j0 k bt162.1 bt162.2 bt164.1 bt164.2.1 bt164.2.2.1 bt164.2.2.2 true) else (if bt164.1 = bt168.1 then (if bt164.2.1 = bt168.2.1 then (laws_FnMake.j0 k bt162.1 bt162.2 bt164.1 bt164.2.1 bt164.2.2.1 bt164.2.2.2 (bt164.2.2.1 != bt168.2.2.1)) else (laws_FnMake.j0 k bt162.1 bt162.2 bt164.1 bt164.2.1 bt164.2.2.1 bt164.2.2.2 true)) else (laws_FnMake.j0 k bt162.1 bt162.2 bt164.1 bt164.2.1 bt164.2.2.1 bt164.2.2.2 true))))))) = some r := h
  clear h
  by_cases c2 : (l0.length : Int) > 1048576
  · rw [if_pos c2] at H
    have c2b0 : decide (1048576 < (l0.length : Int)) = true := decide_eq_true c2
    have c2b1 : decide (1048576 < l0.length) = true := decide_eq_true (by omega)
    clear c2
    obtain rfl := Option.some.inj H
    go_enter Try.func7, Try.ntmps7
    go_wp2
    go_ret
    exact ⟨by first | rfl | (simp [errW_none, errW_some] <;> rfl) | (simp [*, errW_none, errW_some] <;> rfl), by repeat (first | (with_reducible first | exact HB.out | apply below_alloc | apply pw_below_drewN | apply below_drew1) | exact HB.out)⟩
  · rw [if_neg c2] at H
    have c2b0 : decide (1048576 < (l0.length : Int)) = false := decide_eq_false c2
    have c2b1 : decide (1048576 < l0.length) = false := decide_eq_false (by omega)
    clear c2
    replace H := Option.bind_eq_some_iff.mp H
    obtain ⟨⟨t162, t163⟩, A30, H⟩ := H
    replace H : ((impl_TripleMake.f k t162 t163).bind fun bt164 => ((spec_TripleMake.f k t162 t163).bind fun bt168 => (if (bt164.2.2.2 != bt168.2.2.2) = true then (laws_FnMake.j0 k t162 t163 bt164.1 bt164.2.1 bt164.2.2.1 bt164.2.2.2 true) else (if bt164.1 = bt168.1 then (if bt164.2.1 = bt168.2.1 then (laws_FnMake.j0 k t162 t163 bt164.1 bt164.2.1 bt164.2.2.1 bt164.2.2.2 (bt164.2.2.1 != bt168.2.2.1)) else (laws_FnMake.j0 k t162 t163 bt164.1 bt164.2.1 bt164.2.2.1 bt164.2.2.2 true)) else (laws_FnMake.j0 k t162 t163 bt164.1 bt164.2.1 bt164.2.2.1 bt164.2.2.2 true))))) = some r := H
    have A3 := Aside0.mk A30
    clear A30
    replace H := Option.bind_eq_some_iff.mp H
    obtain ⟨⟨t164, t165, t166, t167⟩, A40, H⟩ := H
    replace H : ((spec_TripleMake.f k t162 t163).bind fun bt168 => (if (t167 != bt168.2.2.2) = true then (laws_FnMake.j0 k t162 t163 t164 t165 t166 t167 true) else (if t164 = bt168.1 then (if t165 = bt168.2.1 then (laws_FnMake.j0 k t162 t163 t164 t165 t166 t167 (t166 != bt168.2.2.1)) else (laws_FnMake.j0 k t162 t163 t164 t165 t166 t167 true)) else (laws_FnMake.j0 k t162 t163 t164 t165 t166 t167 true)))) = some r := H
    have A4 := Aside0.mk A40
    clear A40
    replace H := Option.bind_eq_some_iff.mp H
    obtain ⟨⟨t168, t169, t170, t171⟩, A50, H⟩ := H
    replace H : (if (t167 != t171) = true then (laws_FnMake.j0 k t162 t163 t164 t165 t166 t167 true) else (if t164 = t168 then (if t165 = t169 then (laws_FnMake.j0 k t162 t163 t164 t165 t166 t167 (t166 != t170)) else (laws_FnMake.j0 k t162 t163 t164 t165 t166 t167 true)) else (laws_FnMake.j0 k t162 t163 t164 t165 t166 t167 true))) = some r := H
    have A5 := Aside0.mk A50
    clear A50
    have HC6 := Aside0.mk H
    clear H
    go_enter Try.func7, Try.ntmps7
    go_upto_region 6 with (first | ((with_reducible refine gate_callee (f := 27) rfl ?_); refine goesL_ (some 26) rfl rfl Try.func27 (by kernel_rfl) rfl #[.slice A0 l0.length c0] rfl (by (try simp only [List.map_toArray, List.map_cons, List.map_nil]); first | done | rfl | (simp only [List.length_drop, List.length_take]; rfl)) ?_; (with_reducible refine (spec_DrawTripleMake.calls k _ _ l0 t162 t163 _ ?side1 ?side2 A3.out).mono ?_); (case side1 => repeat (first | exact HR0.out | (with_reducible refine Kd.C_alloc ?_ _) | (with_reducible refine Kd.C_drewN ?_ _) | (with_reducible refine Kd.C_drew ?_))); (case side2 => exact HC0.out); rintro e w7 ⟨rfl, hb⟩; refine ⟨_, rfl, ?_⟩; have n0_ := Aside0.mk (below_step (by repeat (first | (with_reducible first | exact HB.out | apply below_alloc | apply pw_below_drewN | apply below_drew1) | exact HB.out)) hb); clear HB; have HB := n0_; clear n0_; (try clear hb); (try clear hb2); (try clear hk); (try clear hi)) | ((with_reducible refine gate_callee (f := 16) rfl ?_); refine goesL_ (some 32) rfl rfl Try.func16 (by kernel_rfl) rfl #[.int .i64 t162, .int .i64 t163] rfl (by (try simp only [List.map_toArray, List.map_cons, List.map_nil]); first | done | rfl | (simp only [List.length_drop, List.length_take]; rfl)) ?_; (with_reducible refine (impl_TripleMake.calls k t162 t163 t164 t165 t166 t167 _ A4.out).mono ?_); rintro e w8 ⟨rfl, hb⟩; refine ⟨_, rfl, ?_⟩; have n0_ := Aside0.mk (below_step (by repeat (first | (with_reducible first | exact HB.out | apply below_alloc | apply pw_below_drewN | apply below_drew1) | exact HB.out)) hb); clear HB; have HB := n0_; clear n0_; (try clear hb); (try clear hb2); (try clear hk); (try clear hi)) | ((with_reducible refine gate_callee (f := 15) rfl ?_); refine goesL_ (some 40) rfl rfl Try.func15 (by kernel_rfl) rfl #[.int .i64 t162, .int .i64 t163] rfl (by (try simp only [List.map_toArray, List.map_cons, List.map_nil]); first | done | rfl | (simp only [List.length_drop, List.length_take]; rfl)) ?_; (with_reducible refine (spec_TripleMake.calls k t162 t163 t168 t169 t170 t171 _ A5.out).mono ?_); rintro e w9 ⟨rfl, hb⟩; refine ⟨_, rfl, ?_⟩; have n0_ := Aside0.mk (below_step (by repeat (first | (with_reducible first | exact HB.out | apply below_alloc | apply pw_below_drewN | apply below_drew1) | exact HB.out)) hb); clear HB; have HB := n0_; clear n0_; (try clear hb); (try clear hb2); (try clear hk); (try clear hi)))
    (try simp only [Act.put, List.setIfInBounds_toArray, List.set_cons_zero, List.set_cons_succ])
    go_cut [62] (fun v62 wc => ∃ (kq : Nat) (x62_5 : Bool), v62 = .bool x62_5 ∧ Aside0 (laws_FnMake.j0 kq t162 t163 t164 t165 t166 t167 x62_5 = some r) ∧ Aside0 (kq ≤ k) ∧ Aside0 (Below w.heap.size w wc))
    case first =>
      have H := HC6.out
      clear HC6
      by_cases c10 : (t167 != t171) = true
      · rw [if_pos c10] at H
        have c10b0 : (t167 != t171) = true := c10
        (try (have c10b1 : decide (t167 = t171) = false := by simpa using c10))
        (try (have c10b2 : (t167 == t171) = false := by simpa using c10))
        (try (have c10b3 : ¬ (t167 = t171) := by simpa using c10))
        clear c10
        (first | rw [c10b0] | (simp only [i64_w, i32_w]; rw [c10b0]) | skip)
        have H' := Aside0.mk H
        clear H
        go_wp2
        go_meet
        case rel => exact ⟨_, (true), (by first | rfl | (simp; done) | (simp [*]; done)), H', ⟨by first | omega | exact Nat.le_refl _⟩, ⟨by repeat (first | (with_reducible first | exact HB.out | apply below_alloc | apply pw_below_drewN | apply below_drew1) | exact HB.out)⟩⟩
      · rw [if_neg c10] at H
        have c10b0 : (t167 != t171) = false := by simpa using c10
        (try (have c10b1 : decide (t167 = t171) = true := by simpa using c10))
        (try (have c10b2 : (t167 == t171) = true := by simpa using c10))
        clear c10
        (first | rw [c10b0] | (simp only [i64_w, i32_w]; rw [c10b0]) | skip)
        by_cases c11 : t164 = t168
        · rw [if_pos c11] at H
          have c11b0 : (t164 == t168) = true := beq_iff_eq.mpr c11
          have c11b1 : (t164 != t168) = false := bne_eq_false_iff_eq.mpr c11
          clear c11
          by_cases c12 : t165 = t169
          · rw [if_pos c12] at H
            have c12b0 : (t165 == t169) = true := beq_iff_eq.mpr c12
            have c12b1 : (t165 != t169) = false := bne_eq_false_iff_eq.mpr c12
            clear c12
            have H' := Aside0.mk H
            clear H
            go_wp2
            go_meet
            case rel => exact ⟨_, ((t166 != t170)), (by first | rfl | (simp; done) | (simp [*]; done)), H', ⟨by first | omega | exact Nat.le_refl _⟩, ⟨by repeat (first | (with_reducible first | exact HB.out | apply below_alloc | apply pw_below_drewN | apply below_drew1) | exact HB.out)⟩⟩
          · rw [if_neg c12] at H
            have c12b0 : (t165 == t169) = false := beq_eq_false_iff_ne.mpr c12
            have c12b1 : (t165 != t169) = true := bne_iff_ne.mpr c12
            have H' := Aside0.mk H
            clear H
            go_wp2
            go_meet
            case rel => exact ⟨_, (true), (by first | rfl | (simp; done) | (simp [*]; done)), H', ⟨by first | omega | exact Nat.le_refl _⟩, ⟨by repeat (first | (with_reducible first | exact HB.out | apply below_alloc | apply pw_below_drewN | apply below_drew1) | exact HB.out)⟩⟩
        · rw [if_neg c11] at H
          have c11b0 : (t164 == t168) = false := beq_eq_false_iff_ne.mpr c11
          have c11b1 : (t164 != t168) = true := bne_iff_ne.mpr c11
          have H' := Aside0.mk H
          clear H
          go_wp2
          go_meet
          case rel => exact ⟨_, (true), (by first | rfl | (simp; done) | (simp [*]; done)), H', ⟨by first | omega | exact Nat.le_refl _⟩, ⟨by repeat (first | (with_reducible first | exact HB.out | apply below_alloc | apply pw_below_drewN | apply below_drew1) | exact HB.out)⟩⟩
    case rest =>
      clear HC6
      try clear c1
      try clear c2
      try clear c2b0
      try clear c2b1
      try clear p2
      try clear c7
      try clear c10
      try clear c10b0
      try clear c10b1
      try clear c10b2
      try clear c11
      try clear c11b0
      try clear c11b1
      try clear c12
      try clear c12b0
      try clear c12b1
      obtain ⟨kq, x62_5, rfl, HA, HJ5, HB⟩ := hcut
      cases kq with
      | zero => exact absurd HA.out (by simp [laws_FnMake.j0])
      | succ kj5 =>
        have H := HA.out
        clear HA
        simp only [laws_FnMake.j0] at H
        by_cases c13 : x62_5 = true
        · subst c13
          have H1 : (some false) = some r := by rw [if_pos rfl] at H; exact H
          clear H
          have H := H1
          clear H1
          obtain rfl := Option.some.inj H
          go_wp2
          go_ret
          exact ⟨by first | rfl | (simp [errW_none, errW_some] <;> rfl) | (simp [*, errW_none, errW_some] <;> rfl), by repeat (first | (with_reducible first | exact HB.out | apply below_alloc | apply pw_below_drewN | apply below_drew1) | exact HB.out)⟩
        · replace c13 := Bool.eq_false_iff.mpr c13
          subst c13
          have H1 : (if t167 = true then ((impl_TripleBack.f kj5 t164 t165 t166).bind fun bt172 => (laws_FnMake.l0 kj5 t162 t163 t164 t165 t166 bt172.1 bt172.2.1 bt172.2.2 0)) else (some true)) = some r := by rw [if_neg (show ¬ (false = true) by decide)] at H; exact H
          clear H
          have H := H1
          clear H1
          by_cases c14 : t167 = true
          · subst c14
            have H1 : ((impl_TripleBack.f kj5 t164 t165 t166).bind fun bt172 => (laws_FnMake.l0 kj5 t162 t163 t164 t165 t166 bt172.1 bt172.2.1 bt172.2.2 0)) = some r := by rw [if_pos rfl] at H; exact H
            clear H
            have H := H1
            clear H1
            replace H := Option.bind_eq_some_iff.mp H
            obtain ⟨⟨t172, t173, t174⟩, A150, H⟩ := H
            replace H : (laws_FnMake.l0 kj5 t162 t163 t164 t165 t166 t172 t173 t174 0) = some r := H
            have A15 := Aside0.mk A150
            clear A150
            have H' := Aside0.mk H
            clear H
            go_wp2_with (first | ((with_reducible refine gate_callee (f := 26) rfl ?_); refine goesL_ (some 69) rfl rfl Try.func26 (by kernel_rfl) rfl #[.int .i64 t164, .int .i64 t165, .int .i64 t166] rfl (by (try simp only [List.map_toArray, List.map_cons, List.map_nil]); first | done | rfl | (simp only [List.length_drop, List.length_take]; rfl)) ?_; (with_reducible refine (impl_TripleBack.calls kj5 t164 t165 t166 t172 t173 t174 _ A15.out).mono ?_); rintro e w16 ⟨rfl, hb⟩; refine ⟨_, rfl, ?_⟩; have n0_ := Aside0.mk (below_step (by repeat (first | (with_reducible first | exact HB.out | apply below_alloc | apply pw_below_drewN | apply below_drew1) | exact HB.out)) hb); clear HB; have HB := n0_; clear n0_; (try clear hb); (try clear hb2); (try clear hk); (try clear hi)))
            go_loopg [16] kj5 (fun kq v16 w' => ∃ (x16_2 : Int), v16 = .int .i64 x16_2 ∧ Aside0 (laws_FnMake.l0 kq t162 t163 t164 t165 t166 t172 t173 t174 x16_2 = some r) ∧ Aside0 (kq ≤ kj5) ∧ Aside0 (Below w.heap.size w w'))
            case atStart => exact ⟨(0), (by first | rfl | (simp; done) | (simp [*]; done)), H', ⟨Nat.le_refl _⟩, ⟨by repeat (first | (with_reducible first | exact HB.out | apply below_alloc | apply pw_below_drewN | apply below_drew1) | exact HB.out)⟩⟩
            case round =>
              clear H'
              try clear c1
              try clear c2
              try clear c2b0
              try clear c2b1
              try clear p2
              try clear c7
              try clear c10
              try clear c10b0
              try clear c10b1
              try clear c10b2
              try clear c11
              try clear c11b0
              try clear c11b1
              try clear c12
              try clear c12b0
              try clear c12b1
              try clear c13
              try clear c14
              try clear c15
              try clear c16
              try clear p2
              obtain ⟨x16_2, rfl, HA, HK2, HB⟩ := hrel
              cases gk with
              | zero => exact absurd HA.out (by simp [laws_FnMake.l0])
              | succ k2 =>
                have H := HA.out
                clear HA
                simp only [laws_FnMake.l0] at H
                by_cases c17 : x16_2 < 3
                · rw [if_pos c17] at H
                  have c17b0 : decide (x16_2 < 3) = true := decide_eq_true c17
                  clear c17
                  replace H := Option.bind_eq_some_iff.mp H
                  obtain ⟨⟨t176, t177, t178, t179⟩, A180, H⟩ := H
                  replace H : (if t179 = true then (if t178 ≤ t166 then (some false) else ((impl_TripleIs.f k2 t176 t177 t178).bind fun t180 => (if t180 = true then (laws_FnMake.l0 k2 t162 t163 t164 t165 t166 t172 t173 t174 (wrap64 (x16_2 + 1))) else (some false)))) else (laws_FnMake.l0 k2 t162 t163 t164 t165 t166 t172 t173 t174 (wrap64 (x16_2 + 1)))) = some r := H
                  have A18 := Aside0.mk A180
                  clear A180
                  by_cases c19 : t179 = true
                  · subst c19
                    have H1 : (if t178 ≤ t166 then (some false) else ((impl_TripleIs.f k2 t176 t177 t178).bind fun t180 => (if t180 = true then (laws_FnMake.l0 k2 t162 t163 t164 t165 t166 t172 t173 t174 (wrap64 (x16_2 + 1))) else (some false)))) = some r := by rw [if_pos rfl] at H; exact H
                    clear H
                    have H := H1
                    clear H1
                    by_cases c20 : t178 ≤ t166
                    · rw [if_pos c20] at H
                      have c20b0 : decide (t178 ≤ t166) = true := decide_eq_true c20
                      clear c20
                      obtain rfl := Option.some.inj H
                      go_wp2_with (first | ((with_reducible refine gate_callee (f := 28) rfl ?_); refine goesL_ (some 82) rfl rfl Try.func28 (by kernel_rfl) rfl #[.int .i64 t164, .int .i64 t165, .int .i64 t166, .int .i64 x16_2] rfl (by (try simp only [List.map_toArray, List.map_cons, List.map_nil]); first | done | rfl | (simp only [List.length_drop, List.length_take]; rfl)) ?_; (with_reducible refine (impl_TripleChild.calls k2 t164 t165 t166 x16_2 t176 t177 t178 true _ A18.out).mono ?_); rintro e w21 ⟨rfl, hb⟩; refine ⟨_, rfl, ?_⟩; have n0_ := Aside0.mk (below_step (by repeat (first | (with_reducible first | exact HB.out | apply below_alloc | apply pw_below_drewN | apply below_drew1) | exact HB.out)) hb); clear HB; have HB := n0_; clear n0_; (try clear hb); (try clear hb2); (try clear hk); (try clear hi)))
                      go_ret
                      exact ⟨by first | rfl | (simp [errW_none, errW_some] <;> rfl) | (simp [*, errW_none, errW_some] <;> rfl), by repeat (first | (with_reducible first | exact HB.out | apply below_alloc | apply pw_below_drewN | apply below_drew1) | exact HB.out)⟩
                    · rw [if_neg c20] at H
                      have c20b0 : decide (t178 ≤ t166) = false := decide_eq_false c20
                      clear c20
                      replace H := Option.bind_eq_some_iff.mp H
                      obtain ⟨t180, A220, H⟩ := H
                      replace H : (if t180 = true then (laws_FnMake.l0 k2 t162 t163 t164 t165 t166 t172 t173 t174 (wrap64 (x16_2 + 1))) else (some false)) = some r := H
                      have A22 := Aside0.mk A220
                      clear A220
                      by_cases c23 : t180 = true
                      · subst c23
                        have H1 : (laws_FnMake.l0 k2 t162 t163 t164 t165 t166 t172 t173 t174 (wrap64 (x16_2 + 1))) = some r := by rw [if_pos rfl] at H; exact H
                        clear H
                        have H := H1
                        clear H1
                        have H' := Aside0.mk H
                        clear H
                        go_wp2_with (first | ((with_reducible refine gate_callee (f := 28) rfl ?_); refine goesL_ (some 82) rfl rfl Try.func28 (by kernel_rfl) rfl #[.int .i64 t164, .int .i64 t165, .int .i64 t166, .int .i64 x16_2] rfl (by (try simp only [List.map_toArray, List.map_cons, List.map_nil]); first | done | rfl | (simp only [List.length_drop, List.length_take]; rfl)) ?_; (with_reducible refine (impl_TripleChild.calls k2 t164 t165 t166 x16_2 t176 t177 t178 true _ A18.out).mono ?_); rintro e w24 ⟨rfl, hb⟩; refine ⟨_, rfl, ?_⟩; have n0_ := Aside0.mk (below_step (by repeat (first | (with_reducible first | exact HB.out | apply below_alloc | apply pw_below_drewN | apply below_drew1) | exact HB.out)) hb); clear HB; have HB := n0_; clear n0_; (try clear hb); (try clear hb2); (try clear hk); (try clear hi)) | (go_at_call 29; (with_reducible refine (impl_TripleIs.calls k2 t176 t177 t178 true _ A22.out).mono ?_); rintro e w25 ⟨rfl, hb⟩; have n0_ := Aside0.mk (below_step (by repeat (first | (with_reducible first | exact HB.out | apply below_alloc | apply pw_below_drewN | apply below_drew1) | exact HB.out)) hb); clear HB; have HB := n0_; clear n0_; (try clear hb); (try clear hb2); (try clear hk); (try clear hi)))
                        go_roundg k2
                        case measure => have := HJ5.out; have := HK2.out; omega
                        case rel => exact ⟨(wrap64 (x16_2 + 1)), (by first | rfl | (simp; done) | (simp [*]; done)), H', ⟨by have := HJ5.out; have := HK2.out; omega⟩, ⟨by repeat (first | (with_reducible first | exact HB.out | apply below_alloc | apply pw_below_drewN | apply below_drew1) | exact HB.out)⟩⟩
                      · replace c23 := Bool.eq_false_iff.mpr c23
                        subst c23
                        have H1 : (some false) = some r := by rw [if_neg (show ¬ (false = true) by decide)] at H; exact H
                        clear H
                        have H := H1
                        clear H1
                        obtain rfl := Option.some.inj H
                        go_wp2_with (first | ((with_reducible refine gate_callee (f := 28) rfl ?_); refine goesL_ (some 82) rfl rfl Try.func28 (by kernel_rfl) rfl #[.int .i64 t164, .int .i64 t165, .int .i64 t166, .int .i64 x16_2] rfl (by (try simp only [List.map_toArray, List.map_cons, List.map_nil]); first | done | rfl | (simp only [List.length_drop, List.length_take]; rfl)) ?_; (with_reducible refine (impl_TripleChild.calls k2 t164 t165 t166 x16_2 t176 t177 t178 true _ A18.out).mono ?_); rintro e w26 ⟨rfl, hb⟩; refine ⟨_, rfl, ?_⟩; have n0_ := Aside0.mk (below_step (by repeat (first | (with_reducible first | exact HB.out | apply below_alloc | apply pw_below_drewN | apply below_drew1) | exact HB.out)) hb); clear HB; have HB := n0_; clear n0_; (try clear hb); (try clear hb2); (try clear hk); (try clear hi)) | (go_at_call 29; (with_reducible refine (impl_TripleIs.calls k2 t176 t177 t178 false _ A22.out).mono ?_); rintro e w27 ⟨rfl, hb⟩; have n0_ := Aside0.mk (below_step (by repeat (first | (with_reducible first | exact HB.out | apply below_alloc | apply pw_below_drewN | apply below_drew1) | exact HB.out)) hb); clear HB; have HB := n0_; clear n0_; (try clear hb); (try clear hb2); (try clear hk); (try clear hi)))
                        go_ret
                        exact ⟨by first | rfl | (simp [errW_none, errW_some] <;> rfl) | (simp [*, errW_none, errW_some] <;> rfl), by repeat (first | (with_reducible first | exact HB.out | apply below_alloc | apply pw_below_drewN | apply below_drew1) | exact HB.out)⟩
                  · replace c19 := Bool.eq_false_iff.mpr c19
                    subst c19
                    have H1 : (laws_FnMake.l0 k2 t162 t163 t164 t165 t166 t172 t173 t174 (wrap64 (x16_2 + 1))) = some r := by rw [if_neg (show ¬ (false = true) by decide)] at H; exact H
                    clear H
                    have H := H1
                    clear H1
                    have H' := Aside0.mk H
                    clear H
                    go_wp2_with (first | ((with_reducible refine gate_callee (f := 28) rfl ?_); refine goesL_ (some 82) rfl rfl Try.func28 (by kernel_rfl) rfl #[.int .i64 t164, .int .i64 t165, .int .i64 t166, .int .i64 x16_2] rfl (by (try simp only [List.map_toArray, List.map_cons, List.map_nil]); first | done | rfl | (simp only [List.length_drop, List.length_take]; rfl)) ?_; (with_reducible refine (impl_TripleChild.calls k2 t164 t165 t166 x16_2 t176 t177 t178 false _ A18.out).mono ?_); rintro e w28 ⟨rfl, hb⟩; refine ⟨_, rfl, ?_⟩; have n0_ := Aside0.mk (below_step (by repeat (first | (with_reducible first | exact HB.out | apply below_alloc | apply pw_below_drewN | apply below_drew1) | exact HB.out)) hb); clear HB; have HB := n0_; clear n0_; (try clear hb); (try clear hb2); (try clear hk); (try clear hi)))
                    go_roundg k2
                    case measure => have := HJ5.out; have := HK2.out; omega
                    case rel => exact ⟨(wrap64 (x16_2 + 1)), (by first | rfl | (simp; done) | (simp [*]; done)), H', ⟨by have := HJ5.out; have := HK2.out; omega⟩, ⟨by repeat (first | (with_reducible first | exact HB.out | apply below_alloc | apply pw_below_drewN | apply below_drew1) | exact HB.out)⟩⟩
                · rw [if_neg c17] at H
                  have c17b0 : decide (x16_2 < 3) = false := decide_eq_false c17
                  clear c17
                  by_cases c29 : t174 = true
                  · subst c29
                    have H1 : (if t172 = t162 then (if t173 = t163 then (if (Int.tmod (wrap64 (t162 + t163)) 2) = 1 then ((impl_GcdOf.f k2 t162 t163).bind fun t175 => (some (t175 == 1))) else (some false)) else (some false)) else (some false)) = some r := by rw [if_pos rfl] at H; exact H
                    clear H
                    have H := H1
                    clear H1
                    by_cases c30 : t172 = t162
                    · rw [if_pos c30] at H
                      have c30b0 : (t172 == t162) = true := beq_iff_eq.mpr c30
                      have c30b1 : (t172 != t162) = false := bne_eq_false_iff_eq.mpr c30
                      clear c30
                      by_cases c31 : t173 = t163
                      · rw [if_pos c31] at H
                        have c31b0 : (t173 == t163) = true := beq_iff_eq.mpr c31
                        have c31b1 : (t173 != t163) = false := bne_eq_false_iff_eq.mpr c31
                        clear c31
                        by_cases c32 : (Int.tmod (wrap64 (t162 + t163)) 2) = 1
                        · rw [if_pos c32] at H
                          have c32b0 : ((Int.tmod (wrap64 (t162 + t163)) 2) == 1) = true := beq_iff_eq.mpr c32
                          have c32b1 : ((Int.tmod (wrap64 (t162 + t163)) 2) != 1) = false := bne_eq_false_iff_eq.mpr c32
                          clear c32
                          replace H := Option.bind_eq_some_iff.mp H
                          obtain ⟨t175, A330, H⟩ := H
                          replace H : (some (t175 == 1)) = some r := H
                          have A33 := Aside0.mk A330
                          clear A330
                          obtain rfl := Option.some.inj H
                          go_wp2_with (first | (go_at_call 30; (with_reducible refine (impl_GcdOf.calls k2 t162 t163 t175 _ A33.out).mono ?_); rintro e w34 ⟨rfl, hb⟩; have n0_ := Aside0.mk (below_step (by repeat (first | (with_reducible first | exact HB.out | apply below_alloc | apply pw_below_drewN | apply below_drew1) | exact HB.out)) hb); clear HB; have HB := n0_; clear n0_; (try clear hb); (try clear hb2); (try clear hk); (try clear hi)))
                          go_ret
                          exact ⟨by first | rfl | (simp [errW_none, errW_some] <;> rfl) | (simp [*, errW_none, errW_some] <;> rfl), by repeat (first | (with_reducible first | exact HB.out | apply below_alloc | apply pw_below_drewN | apply below_drew1) | exact HB.out)⟩
                        · rw [if_neg c32] at H
                          have c32b0 : ((Int.tmod (wrap64 (t162 + t163)) 2) == 1) = false := beq_eq_false_iff_ne.mpr c32
                          have c32b1 : ((Int.tmod (wrap64 (t162 + t163)) 2) != 1) = true := bne_iff_ne.mpr c32
                          obtain rfl := Option.some.inj H
                          go_wp2
                          go_ret
                          exact ⟨by first | rfl | (simp [errW_none, errW_some] <;> rfl) | (simp [*, errW_none, errW_some] <;> rfl), by repeat (first | (with_reducible first | exact HB.out | apply below_alloc | apply pw_below_drewN | apply below_drew1) | exact HB.out)⟩
                      · rw [if_neg c31] at H
                        have c31b0 : (t173 == t163) = false := beq_eq_false_iff_ne.mpr c31
                        have c31b1 : (t173 != t163) = true := bne_iff_ne.mpr c31
                        obtain rfl := Option.some.inj H
                        go_wp2
                        go_ret
                        exact ⟨by first | rfl | (simp [errW_none, errW_some] <;> rfl) | (simp [*, errW_none, errW_some] <;> rfl), by repeat (first | (with_reducible first | exact HB.out | apply below_alloc | apply pw_below_drewN | apply below_drew1) | exact HB.out)⟩
                    · rw [if_neg c30] at H
                      have c30b0 : (t172 == t162) = false := beq_eq_false_iff_ne.mpr c30
                      have c30b1 : (t172 != t162) = true := bne_iff_ne.mpr c30
                      obtain rfl := Option.some.inj H
                      go_wp2
                      go_ret
                      exact ⟨by first | rfl | (simp [errW_none, errW_some] <;> rfl) | (simp [*, errW_none, errW_some] <;> rfl), by repeat (first | (with_reducible first | exact HB.out | apply below_alloc | apply pw_below_drewN | apply below_drew1) | exact HB.out)⟩
                  · replace c29 := Bool.eq_false_iff.mpr c29
                    subst c29
                    have H1 : (some false) = some r := by rw [if_neg (show ¬ (false = true) by decide)] at H; exact H
                    clear H
                    have H := H1
                    clear H1
                    obtain rfl := Option.some.inj H
                    go_wp2
                    go_ret
                    exact ⟨by first | rfl | (simp [errW_none, errW_some] <;> rfl) | (simp [*, errW_none, errW_some] <;> rfl), by repeat (first | (with_reducible first | exact HB.out | apply below_alloc | apply pw_below_drewN | apply below_drew1) | exact HB.out)⟩
          · replace c14 := Bool.eq_false_iff.mpr c14
            subst c14
            have H1 : (some true) = some r := by rw [if_neg (show ¬ (false = true) by decide)] at H; exact H
            clear H
            have H := H1
            clear H1
            obtain rfl := Option.some.inj H
            go_wp2
            go_ret
            exact ⟨by first | rfl | (simp [errW_none, errW_some] <;> rfl) | (simp [*, errW_none, errW_some] <;> rfl), by repeat (first | (with_reducible first | exact HB.out | apply below_alloc | apply pw_below_drewN | apply below_drew1) | exact HB.out)⟩

/-- THE ONE PURE STATEMENT of laws_FnMake: yours. -/
def laws_FnMake.Pure : Prop := ∀ (l0 : List Int), l0.length ≤ maxLen → l0.length * 1 ≤ 140737488351232 → (∀ x ∈ l0, (Lit.int .u8 x).wf = true) → ∃ k, laws_FnMake.f k l0 = some true
theorem laws_FnMake.walk (P : laws_FnMake.Pure) (a0 : Option Addr) (len0 cap0 : Nat) (z0 : List Int) (w : World) (w0 : (a0 = none ∧ len0 = 0 ∧ cap0 = 0 ∧ z0 = []) ∨ ∃ x, a0 = some x ∧ len0 ≤ cap0 ∧ cap0 ≤ maxLen ∧ z0.length = cap0 ∧ (∀ i, i < z0.length → w.cell? (x.add i) = some (.int .u8 (z0.getD i 0))) ∧ ∀ n ∈ z0, (Lit.int .u8 n).wf = true) (y0 : len0 * 1 ≤ 140737488351232) :
    Calls Try.prog 7 #[.slice a0 len0 cap0] w fun e w' => e = .returned (.bool true) ∧ Below w.heap.size w w' := by
  obtain ⟨l0, rfl, hr0, hm0, hw0, hc0⟩ := ReadsInt.ofRowC w0
  obtain ⟨k, h⟩ := P l0 hm0 y0 hw0
  refine (laws_FnMake.calls k _ _ l0 true w (Kd.C_of_reads (d := (0 : Int)) (h1 := fun _ => rfl) hr0) hc0 h).mono ?_
  rintro e w' ⟨rfl, hd⟩
  exact ⟨rfl, hd⟩

end Go.Proofs.Ytpmhninmblgjoaa.PFnMake
