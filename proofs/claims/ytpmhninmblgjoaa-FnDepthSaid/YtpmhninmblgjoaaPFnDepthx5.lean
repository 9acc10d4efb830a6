-- Written by a program of this session (wip/print2.py): the functions that the law reaches, plain, and the walks.
import Derived.Test.YtpmhninmblgjoaaPFnDepthx0
import Derived.Test.YtpmhninmblgjoaaPFnDepthx1
import Derived.Test.YtpmhninmblgjoaaPFnDepthx2
import Derived.Test.YtpmhninmblgjoaaPFnDepthx4
namespace Go.Proofs.Ytpmhninmblgjoaa.PFnDepth
open Go.RowKit Go.Proofs.YtpmhninmblgjoaaW.PrintWords Go.Proofs.YtpmhninmblgjoaaW.PrintLast Go.Proofs.YtpmhninmblgjoaaW.PrintMore
attribute [local go_sem] max2_int min2_int max_two min_two max_three min_three max_four min_four   -- for this text's walks alone
set_option linter.unusedVariables false
set_option linter.unusedSimpArgs false

/-! ### laws_FnDepth: function 14 -/
mutual
def laws_FnDepth.j0 : Nat → Int → Int → Int → Int → Int → Bool → Option (Bool)
  | 0, _, _, _, _, _, _ => none
  | k + 1, x3, x4, x5, x6, x7, x40 => if x40 = true then (some (x6 == x7)) else (laws_FnDepth.l0 k x3 x4 x6 x3 x4 x5 0)
def laws_FnDepth.l0 : Nat → Int → Int → Int → Int → Int → Int → Int → Option (Bool)
  | 0, _, _, _, _, _, _, _ => none
  | k + 1, x3, x4, x6, x8, x9, x10, x11 => if x11 < x6 then ((impl_TripleParent.f k x8 x9 x10).bind fun bt206 => (if bt206.2.2.2.2 = true then (laws_FnDepth.l0 k x3 x4 x6 bt206.1 bt206.2.1 bt206.2.2.1 (wrap64 (x11 + 1))) else (some false))) else (if x8 = 3 then (if x9 = 4 then (if x10 = 5 then (if x3 = 3 then (some ((x6 == 0) == (x4 == 4))) else (some ((x6 == 0) == false))) else (some false)) else (some false)) else (some false))
end
def laws_FnDepth.f (k : Nat) (l0 : List Int) : Option (Bool) := if (l0.length : Int) > 1048576 then (some true) else ((spec_DrawTripleDepth.f k l0).bind fun bt201 => ((impl_TripleDepth.f k bt201.1 bt201.2.1 bt201.2.2).bind fun t204 => ((spec_TripleDepth.f k bt201.1 bt201.2.1 bt201.2.2).bind fun t205 => (if t204 = t205 then (laws_FnDepth.j0 k bt201.1 bt201.2.1 bt201.2.2 t204 t205 (decide (t204 < 0))) else (laws_FnDepth.j0 k bt201.1 bt201.2.1 bt201.2.2 t204 t205 true)))))
theorem laws_FnDepth.mono_l : ∀ k, (∀ y0 y1 y2 y3 y4 y5, LeO (laws_FnDepth.j0 k y0 y1 y2 y3 y4 y5) (laws_FnDepth.j0 (k + 1) y0 y1 y2 y3 y4 y5)) ∧ (∀ y0 y1 y2 y3 y4 y5 y6, LeO (laws_FnDepth.l0 k y0 y1 y2 y3 y4 y5 y6) (laws_FnDepth.l0 (k + 1) y0 y1 y2 y3 y4 y5 y6))
  | 0 => ⟨fun _ _ _ _ _ _ r h => by simp [laws_FnDepth.j0] at h, fun _ _ _ _ _ _ _ r h => by simp [laws_FnDepth.l0] at h⟩
  | k + 1 => by
    obtain ⟨ih0, ih1⟩ := laws_FnDepth.mono_l k
    refine ⟨?_, ?_⟩
    · intro y0 y1 y2 y3 y4 y5
      unfold laws_FnDepth.j0
      repeat' first
      | (with_reducible exact ih0 _ _ _ _ _ _)
      | (with_reducible exact ih1 _ _ _ _ _ _ _)
      | (with_reducible exact impl_TripleDepth.mono _ _ _ _)
      | (with_reducible exact impl_TripleParent.mono _ _ _ _)
      | (with_reducible exact spec_DrawTripleDepth.mono _ _)
      | (with_reducible exact spec_TripleDepth.mono _ _ _ _)
      | (with_reducible exact LeO.refl _)
      | (with_reducible exact LeO.none _)
      | (with_reducible refine LeO.ite ?_ ?_)
      | (with_reducible refine LeO.bind ?_ (fun _ => ?_))
      | exact ih0 _ _ _ _ _ _
      | exact ih1 _ _ _ _ _ _ _
      | exact impl_TripleDepth.mono _ _ _ _
      | exact impl_TripleParent.mono _ _ _ _
      | exact spec_DrawTripleDepth.mono _ _
      | exact spec_TripleDepth.mono _ _ _ _
      | exact LeO.none _
      | refine LeO.ite ?_ ?_
      | refine LeO.bind ?_ (fun _ => ?_)
    · intro y0 y1 y2 y3 y4 y5 y6
      unfold laws_FnDepth.l0
      repeat' first
      | (with_reducible exact ih0 _ _ _ _ _ _)
      | (with_reducible exact ih1 _ _ _ _ _ _ _)
      | (with_reducible exact impl_TripleDepth.mono _ _ _ _)
      | (with_reducible exact impl_TripleParent.mono _ _ _ _)
      | (with_reducible exact spec_DrawTripleDepth.mono _ _)
      | (with_reducible exact spec_TripleDepth.mono _ _ _ _)
      | (with_reducible exact LeO.refl _)
      | (with_reducible exact LeO.none _)
      | (with_reducible refine LeO.ite ?_ ?_)
      | (with_reducible refine LeO.bind ?_ (fun _ => ?_))
      | exact ih0 _ _ _ _ _ _
      | exact ih1 _ _ _ _ _ _ _
      | exact impl_TripleDepth.mono _ _ _ _
      | exact impl_TripleParent.mono _ _ _ _
      | exact spec_DrawTripleDepth.mono _ _
      | exact spec_TripleDepth.mono _ _ _ _
      | exact LeO.none _
      | refine LeO.ite ?_ ?_
      | refine LeO.bind ?_ (fun _ => ?_)
theorem laws_FnDepth.mono : ∀ a0 k, LeO (laws_FnDepth.f k a0) (laws_FnDepth.f (k + 1) a0) := by
  intro a0 k
  obtain ⟨ih0, ih1⟩ := laws_FnDepth.mono_l k
  unfold laws_FnDepth.f
  repeat' first
      | (with_reducible exact ih0 _ _ _ _ _ _)
      | (with_reducible exact ih1 _ _ _ _ _ _ _)
      | (with_reducible exact impl_TripleDepth.mono _ _ _ _)
      | (with_reducible exact impl_TripleParent.mono _ _ _ _)
      | (with_reducible exact spec_DrawTripleDepth.mono _ _)
      | (with_reducible exact spec_TripleDepth.mono _ _ _ _)
      | (with_reducible exact LeO.refl _)
      | (with_reducible exact LeO.none _)
      | (with_reducible refine LeO.ite ?_ ?_)
      | (with_reducible refine LeO.bind ?_ (fun _ => ?_))
      | exact ih0 _ _ _ _ _ _
      | exact ih1 _ _ _ _ _ _ _
      | exact impl_TripleDepth.mono _ _ _ _
      | exact impl_TripleParent.mono _ _ _ _
      | exact spec_DrawTripleDepth.mono _ _
      | exact spec_TripleDepth.mono _ _ _ _
      | exact LeO.none _
      | refine LeO.ite ?_ ?_
      | refine LeO.bind ?_ (fun _ => ?_)
set_option maxHeartbeats 8000000 in
set_option maxRecDepth 100000 in
theorem laws_FnDepth.calls (k : Nat) (A0 : Option Addr) (c0 : Nat) (l0 : List Int) (r : Bool) (w : World) (hr0 : Kd.C (Kd.int .u8) w A0 l0.length l0) (hc0 : l0.length ≤ c0) (h : laws_FnDepth.f k l0 = some r) :
    Calls Try.prog 14 #[.slice A0 l0.length c0] w fun e w' => e = .returned (.bool r) ∧ Below w.heap.size w w' := by
  have HR0 := Aside0.mk hr0
  have HC0 := Aside0.mk hc0
  clear hr0 hc0
  have HB := Aside0.mk (Below.refl w.heap.size w)
  have H : (if (l0.length : Int) > 1048576 then (some true) else ((spec_DrawTripleDepth.f k l0).bind fun bt201 => ((impl_TripleDepth.f k bt201.1 bt201.2.1 bt201.2.2).bind fun t204 => ((spec_TripleDepth.f k bt201.1 bt201.2.1 bt201.2.2).bind fun t205 => (if t204 = t205 then (laws_FnDepth.j0 k bt201.1 bt201.2.1 bt201.2.2 t204 t205 (decide (t204 < 0))) else (laws_FnDepth.j0 k bt201.1 bt201.2.1 bt201.2.2 t204 t205 true)))))) = some r := h
  clear h
  by_cases c2 : (l0.length : Int) > 1048576
  · rw [if_pos c2] at H
    have c2b0 : decide (1048576 < (l0.length : Int)) = true := decide_eq_true c2
    have c2b1 : decide (1048576 < l0.length) = true := decide_eq_true (by omega)
    clear c2
    obtain rfl := Option.some.inj H
    go_enter Try.func14, Try.ntmps14
    go_wp2
    go_ret
    exact ⟨by first | rfl | (simp [errW_none, errW_some] <;> rfl) | (simp [*, errW_none, errW_some] <;> rfl), by repeat (first | (with_reducible first | exact HB.out | apply below_alloc | apply pw_below_drewN | apply below_drew1) | exact HB.out | exact Below.refl _ _)⟩
  · rw [if_neg c2] at H
    have c2b0 : decide (1048576 < (l0.length : Int)) = false := decide_eq_false c2
    have c2b1 : decide (1048576 < l0.length) = false := decide_eq_false (by omega)
    clear c2
    replace H := Option.bind_eq_some_iff.mp H
    obtain ⟨⟨t201, t202, t203⟩, A30, H⟩ := H
    replace H : ((impl_TripleDepth.f k t201 t202 t203).bind fun t204 => ((spec_TripleDepth.f k t201 t202 t203).bind fun t205 => (if t204 = t205 then (laws_FnDepth.j0 k t201 t202 t203 t204 t205 (decide (t204 < 0))) else (laws_FnDepth.j0 k t201 t202 t203 t204 t205 true)))) = some r := H
    have A3 := Aside0.mk A30
    clear A30
    replace H := Option.bind_eq_some_iff.mp H
    obtain ⟨t204, A40, H⟩ := H
    replace H : ((spec_TripleDepth.f k t201 t202 t203).bind fun t205 => (if t204 = t205 then (laws_FnDepth.j0 k t201 t202 t203 t204 t205 (decide (t204 < 0))) else (laws_FnDepth.j0 k t201 t202 t203 t204 t205 true))) = some r := H
    have A4 := Aside0.mk A40
    clear A40
    replace H := Option.bind_eq_some_iff.mp H
    obtain ⟨t205, A50, H⟩ := H
    replace H : (if t204 = t205 then (laws_FnDepth.j0 k t201 t202 t203 t204 t205 (decide (t204 < 0))) else (laws_FnDepth.j0 k t201 t202 t203 t204 t205 true)) = some r := H
    have A5 := Aside0.mk A50
    clear A50
    have HC6 := Aside0.mk H
    clear H
    go_enter Try.func14, Try.ntmps14
    go_upto_region 6 with (first | ((with_reducible refine gate_callee (f := 41) rfl ?_); refine goesL_ (some 22) rfl rfl Try.func41 (by kernel_rfl) rfl #[.slice A0 l0.length c0] rfl (by (try simp only [List.map_toArray, List.map_cons, List.map_nil]); first | done | rfl | (simp only [List.length_drop, List.length_take]; rfl)) ?_; (with_reducible refine (spec_DrawTripleDepth.calls k _ _ l0 t201 t202 t203 _ ?side1 ?side2 A3.out).mono ?_); (case side1 => repeat (first | exact HR0.out | (with_reducible refine Kd.C_alloc ?_ _) | (with_reducible refine Kd.C_drewN ?_ _) | (with_reducible refine Kd.C_drew ?_))); (case side2 => exact HC0.out); rintro e w7 ⟨rfl, hb⟩; refine ⟨_, rfl, ?_⟩; have n0_ := Aside0.mk (below_step (by repeat (first | (with_reducible first | exact HB.out | apply below_alloc | apply pw_below_drewN | apply below_drew1) | exact HB.out | exact Below.refl _ _)) hb); try clear HB; have HB := n0_; clear n0_; (try clear hb); (try clear hb2); (try clear hk); (try clear hi)) | ((with_reducible refine gate_callee (f := 35) rfl ?_); refine goesL_ (some 29) rfl rfl Try.func35 (by kernel_rfl) rfl #[.int .i64 t201, .int .i64 t202, .int .i64 t203] rfl (by (try simp only [List.map_toArray, List.map_cons, List.map_nil]); first | done | rfl | (simp only [List.length_drop, List.length_take]; rfl)) ?_; (with_reducible refine (impl_TripleDepth.calls k t201 t202 t203 t204 _ A4.out).mono ?_); rintro e w8 ⟨rfl, hb⟩; refine ⟨_, rfl, ?_⟩; have n0_ := Aside0.mk (below_step (by repeat (first | (with_reducible first | exact HB.out | apply below_alloc | apply pw_below_drewN | apply below_drew1) | exact HB.out | exact Below.refl _ _)) hb); try clear HB; have HB := n0_; clear n0_; (try clear hb); (try clear hb2); (try clear hk); (try clear hi)) | ((with_reducible refine gate_callee (f := 34) rfl ?_); refine goesL_ (some 33) rfl rfl Try.func34 (by kernel_rfl) rfl #[.int .i64 t201, .int .i64 t202, .int .i64 t203] rfl (by (try simp only [List.map_toArray, List.map_cons, List.map_nil]); first | done | rfl | (simp only [List.length_drop, List.length_take]; rfl)) ?_; (with_reducible refine (spec_TripleDepth.calls k t201 t202 t203 t205 _ A5.out).mono ?_); rintro e w9 ⟨rfl, hb⟩; refine ⟨_, rfl, ?_⟩; have n0_ := Aside0.mk (below_step (by repeat (first | (with_reducible first | exact HB.out | apply below_alloc | apply pw_below_drewN | apply below_drew1) | exact HB.out | exact Below.refl _ _)) hb); try clear HB; have HB := n0_; clear n0_; (try clear hb); (try clear hb2); (try clear hk); (try clear hi)))
    (try simp only [Act.put, List.setIfInBounds_toArray, List.set_cons_zero, List.set_cons_succ])
    go_cut [40] (fun v40 wc => ∃ (kq : Nat) (x40_5 : Bool), v40 = .bool x40_5 ∧ Aside0 (laws_FnDepth.j0 kq t201 t202 t203 t204 t205 x40_5 = some r) ∧ Aside0 (kq ≤ k) ∧ Aside0 (Below w.heap.size w wc))
    case first =>
      have H := HC6.out
      clear HC6
      by_cases c10 : t204 = t205
      · rw [if_pos c10] at H
        have c10b0 : (t204 == t205) = true := beq_iff_eq.mpr c10
        have c10b1 : (t204 != t205) = false := bne_eq_false_iff_eq.mpr c10
        clear c10
        (first | rw [c10b0] | (simp only [i64_w, i32_w]; rw [c10b0]) | skip)
        have H' := Aside0.mk H
        clear H
        go_wp2
        go_meet
        case rel => exact ⟨_, (decide (t204 < 0)), (by first | rfl | (simp; done) | (simp [*]; done)), H', ⟨by first | omega | exact Nat.le_refl _⟩, ⟨by repeat (first | (with_reducible first | exact HB.out | apply below_alloc | apply pw_below_drewN | apply below_drew1) | exact HB.out | exact Below.refl _ _)⟩⟩
      · rw [if_neg c10] at H
        have c10b0 : (t204 == t205) = false := beq_eq_false_iff_ne.mpr c10
        have c10b1 : (t204 != t205) = true := bne_iff_ne.mpr c10
        (first | rw [c10b0] | (simp only [i64_w, i32_w]; rw [c10b0]) | skip)
        have H' := Aside0.mk H
        clear H
        go_wp2
        go_meet
        case rel => exact ⟨_, (true), (by first | rfl | (simp; done) | (simp [*]; done)), H', ⟨by first | omega | exact Nat.le_refl _⟩, ⟨by repeat (first | (with_reducible first | exact HB.out | apply below_alloc | apply pw_below_drewN | apply below_drew1) | exact HB.out | exact Below.refl _ _)⟩⟩
    case rest =>
      clear HC6
      try clear c1
      try clear c2
      try clear c2b0
      try clear c2b1
      try clear p2
      try clear c3
      try clear c4
      try clear c10
      try clear c10b0
      try clear c10b1
      obtain ⟨kq, x40_5, rfl, HA, HJ5, HB⟩ := hcut
      cases kq with
      | zero => exact absurd HA.out (by simp [laws_FnDepth.j0])
      | succ kj5 =>
        have H := HA.out
        clear HA
        simp only [laws_FnDepth.j0] at H
        by_cases c11 : x40_5 = true
        · subst c11
          have H1 : (some (t204 == t205)) = some r := by rw [if_pos rfl] at H; exact H
          clear H
          have H := H1
          clear H1
          obtain rfl := Option.some.inj H
          go_wp2
          go_ret
          exact ⟨by first | rfl | (simp [errW_none, errW_some] <;> rfl) | (simp [*, errW_none, errW_some] <;> rfl), by repeat (first | (with_reducible first | exact HB.out | apply below_alloc | apply pw_below_drewN | apply below_drew1) | exact HB.out | exact Below.refl _ _)⟩
        · replace c11 := Bool.eq_false_iff.mpr c11
          subst c11
          have H1 : (laws_FnDepth.l0 kj5 t201 t202 t204 t201 t202 t203 0) = some r := by rw [if_neg (show ¬ (false = true) by decide)] at H; exact H
          clear H
          have H := H1
          clear H1
          have H' := Aside0.mk H
          clear H
          go_wp2
          go_loopg [8, 9, 10, 11] kj5 (fun kq v8 v9 v10 v11 w' => ∃ (x8_2 : Int) (x9_2 : Int) (x10_2 : Int) (x11_2 : Int), v8 = .int .i64 x8_2 ∧ v9 = .int .i64 x9_2 ∧ v10 = .int .i64 x10_2 ∧ v11 = .int .i64 x11_2 ∧ Aside0 (laws_FnDepth.l0 kq t201 t202 t204 x8_2 x9_2 x10_2 x11_2 = some r) ∧ Aside0 (kq ≤ kj5) ∧ Aside0 (Below w.heap.size w w'))
          case atStart => exact ⟨(t201), (t202), (t203), (0), (by first | rfl | (simp; done) | (simp [*]; done)), (by first | rfl | (simp; done) | (simp [*]; done)), (by first | rfl | (simp; done) | (simp [*]; done)), (by first | rfl | (simp; done) | (simp [*]; done)), H', ⟨Nat.le_refl _⟩, ⟨by repeat (first | (with_reducible first | exact HB.out | apply below_alloc | apply pw_below_drewN | apply below_drew1) | exact HB.out | exact Below.refl _ _)⟩⟩
          case round =>
            clear H'
            try clear c1
            try clear c2
            try clear c2b0
            try clear c2b1
            try clear p2
            try clear c3
            try clear c4
            try clear c10
            try clear c10b0
            try clear c10b1
            try clear c11
            try clear p2
            obtain ⟨x8_2, x9_2, x10_2, x11_2, rfl, rfl, rfl, rfl, HA, HK2, HB⟩ := hrel
            cases gk with
            | zero => exact absurd HA.out (by simp [laws_FnDepth.l0])
            | succ k2 =>
              have H := HA.out
              clear HA
              simp only [laws_FnDepth.l0] at H
              by_cases c12 : x11_2 < t204
              · rw [if_pos c12] at H
                have c12b0 : decide (x11_2 < t204) = true := decide_eq_true c12
                clear c12
                replace H := Option.bind_eq_some_iff.mp H
                obtain ⟨⟨t206, t207, t208, t209, t210⟩, A130, H⟩ := H
                replace H : (if t210 = true then (laws_FnDepth.l0 k2 t201 t202 t204 t206 t207 t208 (wrap64 (x11_2 + 1))) else (some false)) = some r := H
                have A13 := Aside0.mk A130
                clear A130
                by_cases c14 : t210 = true
                · subst c14
                  have H1 : (laws_FnDepth.l0 k2 t201 t202 t204 t206 t207 t208 (wrap64 (x11_2 + 1))) = some r := by rw [if_pos rfl] at H; exact H
                  clear H
                  have H := H1
                  clear H1
                  have H' := Aside0.mk H
                  clear H
                  go_wp2_with (first | ((with_reducible refine gate_callee (f := 33) rfl ?_); refine goesL_ (some 56) rfl rfl Try.func33 (by kernel_rfl) rfl #[.int .i64 x8_2, .int .i64 x9_2, .int .i64 x10_2] rfl (by (try simp only [List.map_toArray, List.map_cons, List.map_nil]); first | done | rfl | (simp only [List.length_drop, List.length_take]; rfl)) ?_; (with_reducible refine (impl_TripleParent.calls k2 x8_2 x9_2 x10_2 t206 t207 t208 t209 true _ A13.out).mono ?_); rintro e w15 ⟨rfl, hb⟩; refine ⟨_, rfl, ?_⟩; have n0_ := Aside0.mk (below_step (by repeat (first | (with_reducible first | exact HB.out | apply below_alloc | apply pw_below_drewN | apply below_drew1) | exact HB.out | exact Below.refl _ _)) hb); try clear HB; have HB := n0_; clear n0_; (try clear hb); (try clear hb2); (try clear hk); (try clear hi)))
                  go_roundg k2
                  case measure => have := HJ5.out; have := HK2.out; omega
                  case rel => exact ⟨(t206), (t207), (t208), (wrap64 (x11_2 + 1)), (by first | rfl | (simp; done) | (simp [*]; done)), (by first | rfl | (simp; done) | (simp [*]; done)), (by first | rfl | (simp; done) | (simp [*]; done)), (by first | rfl | (simp; done) | (simp [*]; done)), H', ⟨by have := HJ5.out; have := HK2.out; omega⟩, ⟨by repeat (first | (with_reducible first | exact HB.out | apply below_alloc | apply pw_below_drewN | apply below_drew1) | exact HB.out | exact Below.refl _ _)⟩⟩
                · replace c14 := Bool.eq_false_iff.mpr c14
                  subst c14
                  have H1 : (some false) = some r := by rw [if_neg (show ¬ (false = true) by decide)] at H; exact H
                  clear H
                  have H := H1
                  clear H1
                  obtain rfl := Option.some.inj H
                  go_wp2_with (first | ((with_reducible refine gate_callee (f := 33) rfl ?_); refine goesL_ (some 56) rfl rfl Try.func33 (by kernel_rfl) rfl #[.int .i64 x8_2, .int .i64 x9_2, .int .i64 x10_2] rfl (by (try simp only [List.map_toArray, List.map_cons, List.map_nil]); first | done | rfl | (simp only [List.length_drop, List.length_take]; rfl)) ?_; (with_reducible refine (impl_TripleParent.calls k2 x8_2 x9_2 x10_2 t206 t207 t208 t209 false _ A13.out).mono ?_); rintro e w16 ⟨rfl, hb⟩; refine ⟨_, rfl, ?_⟩; have n0_ := Aside0.mk (below_step (by repeat (first | (with_reducible first | exact HB.out | apply below_alloc | apply pw_below_drewN | apply below_drew1) | exact HB.out | exact Below.refl _ _)) hb); try clear HB; have HB := n0_; clear n0_; (try clear hb); (try clear hb2); (try clear hk); (try clear hi)))
                  go_ret
                  exact ⟨by first | rfl | (simp [errW_none, errW_some] <;> rfl) | (simp [*, errW_none, errW_some] <;> rfl), by repeat (first | (with_reducible first | exact HB.out | apply below_alloc | apply pw_below_drewN | apply below_drew1) | exact HB.out | exact Below.refl _ _)⟩
              · rw [if_neg c12] at H
                have c12b0 : decide (x11_2 < t204) = false := decide_eq_false c12
                clear c12
                by_cases c17 : x8_2 = 3
                · rw [if_pos c17] at H
                  have c17b0 : (x8_2 == 3) = true := beq_iff_eq.mpr c17
                  have c17b1 : (x8_2 != 3) = false := bne_eq_false_iff_eq.mpr c17
                  clear c17
                  by_cases c18 : x9_2 = 4
                  · rw [if_pos c18] at H
                    have c18b0 : (x9_2 == 4) = true := beq_iff_eq.mpr c18
                    have c18b1 : (x9_2 != 4) = false := bne_eq_false_iff_eq.mpr c18
                    clear c18
                    by_cases c19 : x10_2 = 5
                    · rw [if_pos c19] at H
                      have c19b0 : (x10_2 == 5) = true := beq_iff_eq.mpr c19
                      have c19b1 : (x10_2 != 5) = false := bne_eq_false_iff_eq.mpr c19
                      clear c19
                      by_cases c20 : t201 = 3
                      · rw [if_pos c20] at H
                        have c20b0 : (t201 == 3) = true := beq_iff_eq.mpr c20
                        have c20b1 : (t201 != 3) = false := bne_eq_false_iff_eq.mpr c20
                        clear c20
                        obtain rfl := Option.some.inj H
                        go_wp2
                        go_ret
                        exact ⟨by first | rfl | (simp [errW_none, errW_some] <;> rfl) | (simp [*, errW_none, errW_some] <;> rfl), by repeat (first | (with_reducible first | exact HB.out | apply below_alloc | apply pw_below_drewN | apply below_drew1) | exact HB.out | exact Below.refl _ _)⟩
                      · rw [if_neg c20] at H
                        have c20b0 : (t201 == 3) = false := beq_eq_false_iff_ne.mpr c20
                        have c20b1 : (t201 != 3) = true := bne_iff_ne.mpr c20
                        obtain rfl := Option.some.inj H
                        go_wp2
                        go_ret
                        exact ⟨by first | rfl | (simp [errW_none, errW_some] <;> rfl) | (simp [*, errW_none, errW_some] <;> rfl), by repeat (first | (with_reducible first | exact HB.out | apply below_alloc | apply pw_below_drewN | apply below_drew1) | exact HB.out | exact Below.refl _ _)⟩
                    · rw [if_neg c19] at H
                      have c19b0 : (x10_2 == 5) = false := beq_eq_false_iff_ne.mpr c19
                      have c19b1 : (x10_2 != 5) = true := bne_iff_ne.mpr c19
                      obtain rfl := Option.some.inj H
                      go_wp2
                      go_ret
                      exact ⟨by first | rfl | (simp [errW_none, errW_some] <;> rfl) | (simp [*, errW_none, errW_some] <;> rfl), by repeat (first | (with_reducible first | exact HB.out | apply below_alloc | apply pw_below_drewN | apply below_drew1) | exact HB.out | exact Below.refl _ _)⟩
                  · rw [if_neg c18] at H
                    have c18b0 : (x9_2 == 4) = false := beq_eq_false_iff_ne.mpr c18
                    have c18b1 : (x9_2 != 4) = true := bne_iff_ne.mpr c18
                    obtain rfl := Option.some.inj H
                    go_wp2
                    go_ret
                    exact ⟨by first | rfl | (simp [errW_none, errW_some] <;> rfl) | (simp [*, errW_none, errW_some] <;> rfl), by repeat (first | (with_reducible first | exact HB.out | apply below_alloc | apply pw_below_drewN | apply below_drew1) | exact HB.out | exact Below.refl _ _)⟩
                · rw [if_neg c17] at H
                  have c17b0 : (x8_2 == 3) = false := beq_eq_false_iff_ne.mpr c17
                  have c17b1 : (x8_2 != 3) = true := bne_iff_ne.mpr c17
                  obtain rfl := Option.some.inj H
                  go_wp2
                  go_ret
                  exact ⟨by first | rfl | (simp [errW_none, errW_some] <;> rfl) | (simp [*, errW_none, errW_some] <;> rfl), by repeat (first | (with_reducible first | exact HB.out | apply below_alloc | apply pw_below_drewN | apply below_drew1) | exact HB.out | exact Below.refl _ _)⟩

/-- THE ONE PURE STATEMENT of laws_FnDepth: yours. -/
def laws_FnDepth.Pure : Prop := ∀ (l0 : List Int), l0.length ≤ maxLen → l0.length * 1 ≤ 140737488351232 → (∀ x ∈ l0, (Lit.int .u8 x).wf = true) → ∃ k, laws_FnDepth.f k l0 = some true
theorem laws_FnDepth.walk (P : laws_FnDepth.Pure) (a0 : Option Addr) (len0 cap0 : Nat) (z0 : List Int) (w : World) (w0 : (a0 = none ∧ len0 = 0 ∧ cap0 = 0 ∧ z0 = []) ∨ ∃ x, a0 = some x ∧ len0 ≤ cap0 ∧ cap0 ≤ maxLen ∧ z0.length = cap0 ∧ (∀ i, i < z0.length → w.cell? (x.add i) = some (.int .u8 (z0.getD i 0))) ∧ ∀ n ∈ z0, (Lit.int .u8 n).wf = true) (y0 : len0 * 1 ≤ 140737488351232) :
    Calls Try.prog 14 #[.slice a0 len0 cap0] w fun e w' => e = .returned (.bool true) ∧ Below w.heap.size w w' := by
  obtain ⟨l0, rfl, hr0, hm0, hw0, hc0⟩ := ReadsInt.ofRowC w0
  obtain ⟨k, h⟩ := P l0 hm0 y0 hw0
  refine (laws_FnDepth.calls k _ _ l0 true w (Kd.C_of_reads (d := (0 : Int)) (h1 := fun _ => rfl) hr0) hc0 h).mono ?_
  rintro e w' ⟨rfl, hd⟩
  exact ⟨rfl, hd⟩

end Go.Proofs.Ytpmhninmblgjoaa.PFnDepth
