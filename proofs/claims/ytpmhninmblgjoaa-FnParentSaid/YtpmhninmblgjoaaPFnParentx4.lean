-- Written by a program of this session (wip/print2.py): the functions that the law reaches, plain, and the walks.
import Derived.Test.YtpmhninmblgjoaaPFnParentx0
import Derived.Test.YtpmhninmblgjoaaPFnParentx1
import Derived.Test.YtpmhninmblgjoaaPFnParentx2
import Derived.Test.YtpmhninmblgjoaaPFnParentx3
namespace Go.Proofs.Ytpmhninmblgjoaa.PFnParent
open Go.RowKit Go.Proofs.YtpmhninmblgjoaaW.PrintWords Go.Proofs.YtpmhninmblgjoaaW.PrintLast Go.Proofs.YtpmhninmblgjoaaW.PrintMore
attribute [local go_sem] max2_int min2_int max_two min_two max_three min_three max_four min_four   -- for this text's walks alone
set_option linter.unusedVariables false
set_option linter.unusedSimpArgs false

/-! ### spec_DrawTripleParent: function 39 -/
def spec_DrawTripleParent.f (k : Nat) (l0 : List Int) : Option (Int × Int × Int) := (spec_l6Open.f l0).bind fun bt192 => ((spec_l92Triple.f k bt192.1 bt192.2).bind fun bt195 => (some (bt195.1, bt195.2.1, bt195.2.2.1)))
theorem spec_DrawTripleParent.mono : ∀ a0 k, LeO (spec_DrawTripleParent.f k a0) (spec_DrawTripleParent.f (k + 1) a0) := by
  intro a0 k
  unfold spec_DrawTripleParent.f
  repeat' first
      | (with_reducible exact spec_l92Triple.mono _ _ _)
      | (with_reducible exact LeO.refl _)
      | (with_reducible exact LeO.none _)
      | (with_reducible refine LeO.ite ?_ ?_)
      | (with_reducible refine LeO.bind ?_ (fun _ => ?_))
      | exact spec_l92Triple.mono _ _ _
      | exact LeO.none _
      | refine LeO.ite ?_ ?_
      | refine LeO.bind ?_ (fun _ => ?_)
set_option maxHeartbeats 8000000 in
set_option maxRecDepth 100000 in
theorem spec_DrawTripleParent.calls (k : Nat) (A0 : Option Addr) (c0 : Nat) (l0 : List Int) (r1 : Int) (r2 : Int) (r3 : Int) (w : World) (hr0 : Kd.C (Kd.int .u8) w A0 l0.length l0) (hc0 : l0.length ≤ c0) (h : spec_DrawTripleParent.f k l0 = some (r1, r2, r3)) :
    Calls Try.prog 39 #[.slice A0 l0.length c0] w fun e w' => e = .returned (.tuple #[.int .i64 r1, .int .i64 r2, .int .i64 r3]) ∧ Below w.heap.size w w' := by
  have HR0 := Aside0.mk hr0
  have HC0 := Aside0.mk hc0
  clear hr0 hc0
  have HB := Aside0.mk (Below.refl w.heap.size w)
  have H : ((spec_l6Open.f l0).bind fun bt192 => ((spec_l92Triple.f k bt192.1 bt192.2).bind fun bt195 => (some (bt195.1, bt195.2.1, bt195.2.2.1)))) = some (r1, r2, r3) := h
  clear h
  replace H := Option.bind_eq_some_iff.mp H
  obtain ⟨⟨t192, t193⟩, A20, H⟩ := H
  replace H : ((spec_l92Triple.f k t192 t193).bind fun bt195 => (some (bt195.1, bt195.2.1, bt195.2.2.1))) = some (r1, r2, r3) := H
  have A2 := Aside0.mk A20
  clear A20
  replace H := Option.bind_eq_some_iff.mp H
  obtain ⟨⟨t195, t196, t197, t198⟩, A30, H⟩ := H
  replace H : (some (t195, t196, t197)) = some (r1, r2, r3) := H
  have A3 := Aside0.mk A30
  clear A30
  simp only [Option.some.injEq, Prod.mk.injEq] at H
  obtain ⟨rfl, rfl, rfl⟩ := H
  go_enter Try.func39, Try.ntmps39
  go_wp2_with (first | ((with_reducible refine gate_callee (f := 46) rfl ?_); refine goesL_ (some 6) rfl rfl Try.func46 (by kernel_rfl) rfl #[.slice A0 l0.length c0] rfl (by (try simp only [List.map_toArray, List.map_cons, List.map_nil]); first | done | rfl | (simp only [List.length_drop, List.length_take]; rfl)) ?_; (with_reducible refine (spec_l6Open.calls _ _ l0 t192 t193 w _ ?side1 ?side2 ?side3 A2.out).mono ?_); (case side1 => repeat (first | (with_reducible first | exact HB.out | apply below_alloc | apply pw_below_drewN | apply below_drew1) | exact HB.out | exact Below.refl _ _)); (case side2 => exact HR0.out); (case side3 => exact HC0.out); rintro e w4 ⟨g194, rfl, hi, hb, hb2⟩; refine ⟨_, rfl, ?_⟩; have n0_ := Aside0.mk (hb); have n1_ := Aside0.mk (hi); try clear HB; have HB := n0_; have HI194 := n1_; clear n0_ n1_; (try clear hb); (try clear hb2); (try clear hk); (try clear hi)) | ((with_reducible refine gate_callee (f := 52) rfl ?_); refine goesL_ (some 7) rfl rfl Try.func52 (by kernel_rfl) rfl #[.pointer (some ⟨g194, 0, none⟩)] rfl (by (try simp only [List.map_toArray, List.map_cons, List.map_nil]); first | done | rfl | (simp only [List.length_drop, List.length_take]; rfl)) ?_; (with_reducible refine (spec_l92Triple.calls k g194 t192 t193 t195 t196 t197 t198 w _ ?side1 ?side2 A3.out).mono ?_); (case side1 => repeat (first | (with_reducible first | exact HI194.out | apply IsS64.alloc | apply IsS64.drewN | apply IsS64.drew | apply IsS64.set_1) | exact HI194.out)); (case side2 => repeat (first | (with_reducible first | exact HB.out | apply below_alloc | apply pw_below_drewN | apply below_drew1 | refine below_set ?_ (IsS64.ge HI194.out)) | exact HB.out)); rintro e w5 ⟨rfl, hi, hb, hk⟩; refine ⟨_, rfl, ?_⟩; have n0_ := Aside0.mk (hb); have n1_ := Aside0.mk (hi); try clear HB; clear HI194; have HB := n0_; have HI194 := n1_; clear n0_ n1_; (try clear hb); (try clear hb2); (try clear hk); (try clear hi)))
  go_ret3
  exact ⟨by first | rfl | (simp [errW_none, errW_some] <;> rfl) | (simp [*, errW_none, errW_some] <;> rfl), by repeat (first | (with_reducible first | exact HB.out | apply below_alloc | apply pw_below_drewN | apply below_drew1 | refine below_set ?_ (IsS64.ge HI194.out)) | exact HB.out)⟩

/-! ### laws_FnParent: function 12 -/
def laws_FnParent.j0 : Nat → Int → Int → Int → Int → Int → Int → Int → Bool → Bool → Option (Bool)
  | 0, _, _, _, _, _, _, _, _, _ => none
  | k + 1, x3, x4, x5, x6, x7, x8, x9, x10, x71 => if x71 = true then (some false) else (if x10 = true then ((impl_TripleChild.f k x6 x7 x8 x9).bind fun bt212 => (if bt212.2.2.2 = true then (if bt212.1 = x3 then (if bt212.2.1 = x4 then (if bt212.2.2.1 = x5 then (some (decide (x8 < x5))) else (some false)) else (some false)) else (some false)) else (some false))) else ((impl_TripleIs.f k x3 x4 x5).bind fun t216 => (if t216 = true then (if x3 = 3 then (if x4 = 4 then (some (x5 == 5)) else (some false)) else (some false)) else (some true))))
def laws_FnParent.f (k : Nat) (l0 : List Int) : Option (Bool) := if (l0.length : Int) > 1048576 then (some true) else ((spec_DrawTripleParent.f k l0).bind fun bt199 => ((impl_TripleParent.f k bt199.1 bt199.2.1 bt199.2.2).bind fun bt202 => ((spec_TripleParent.f k bt199.1 bt199.2.1 bt199.2.2).bind fun bt207 => (if (bt202.2.2.2.2 != bt207.2.2.2.2) = true then (laws_FnParent.j0 k bt199.1 bt199.2.1 bt199.2.2 bt202.1 bt202.2.1 bt202.2.2.1 bt202.2.2.2.1 bt202.2.2.2.2 true) else (if bt202.1 = bt207.1 then (if bt202.2.1 = bt207.2.1 then (if bt202.2.2.1 = bt207.2.2.1 then (laws_FnParent.j0 k bt199.1 bt199.2.1 bt199.2.2 bt202.1 bt202.2.1 bt202.2.2.1 bt202.2.2.2.1 bt202.2.2.2.2 (bt202.2.2.2.1 != bt207.2.2.2.1)) else (laws_FnParent.j0 k bt199.1 bt199.2.1 bt199.2.2 bt202.1 bt202.2.1 bt202.2.2.1 bt202.2.2.2.1 bt202.2.2.2.2 true)) else (laws_FnParent.j0 k bt199.1 bt199.2.1 bt199.2.2 bt202.1 bt202.2.1 bt202.2.2.1 bt202.2.2.2.1 bt202.2.2.2.2 true)) else (laws_FnParent.j0 k bt199.1 bt199.2.1 bt199.2.2 bt202.1 bt202.2.1 bt202.2.2.1 bt202.2.2.2.1 bt202.2.2.2.2 true))))))
theorem laws_FnParent.mono_l : ∀ k, (∀ y0 y1 y2 y3 y4 y5 y6 y7 y8, LeO (laws_FnParent.j0 k y0 y1 y2 y3 y4 y5 y6 y7 y8) (laws_FnParent.j0 (k + 1) y0 y1 y2 y3 y4 y5 y6 y7 y8))
  | 0 => fun _ _ _ _ _ _ _ _ _ r h => by simp [laws_FnParent.j0] at h
  | k + 1 => by
    have ih0 := laws_FnParent.mono_l k
    · intro y0 y1 y2 y3 y4 y5 y6 y7 y8
      unfold laws_FnParent.j0
      repeat' first
      | (with_reducible exact ih0 _ _ _ _ _ _ _ _ _)
      | (with_reducible exact impl_TripleChild.mono _ _ _ _ _)
      | (with_reducible exact impl_TripleIs.mono _ _ _ _)
      | (with_reducible exact impl_TripleParent.mono _ _ _ _)
      | (with_reducible exact spec_DrawTripleParent.mono _ _)
      | (with_reducible exact spec_TripleParent.mono _ _ _ _)
      | (with_reducible exact LeO.refl _)
      | (with_reducible exact LeO.none _)
      | (with_reducible refine LeO.ite ?_ ?_)
      | (with_reducible refine LeO.bind ?_ (fun _ => ?_))
      | exact ih0 _ _ _ _ _ _ _ _ _
      | exact impl_TripleChild.mono _ _ _ _ _
      | exact impl_TripleIs.mono _ _ _ _
      | exact impl_TripleParent.mono _ _ _ _
      | exact spec_DrawTripleParent.mono _ _
      | exact spec_TripleParent.mono _ _ _ _
      | exact LeO.none _
      | refine LeO.ite ?_ ?_
      | refine LeO.bind ?_ (fun _ => ?_)
theorem laws_FnParent.mono : ∀ a0 k, LeO (laws_FnParent.f k a0) (laws_FnParent.f (k + 1) a0) := by
  intro a0 k
  have ih0 := laws_FnParent.mono_l k
  unfold laws_FnParent.f
  repeat' first
      | (with_reducible exact ih0 _ _ _ _ _ _ _ _ _)
      | (with_reducible exact impl_TripleChild.mono _ _ _ _ _)
      | (with_reducible exact impl_TripleIs.mono _ _ _ _)
      | (with_reducible exact impl_TripleParent.mono _ _ _ _)
      | (with_reducible exact spec_DrawTripleParent.mono _ _)
      | (with_reducible exact spec_TripleParent.mono _ _ _ _)
      | (with_reducible exact LeO.refl _)
      | (with_reducible exact LeO.none _)
      | (with_reducible refine LeO.ite ?_ ?_)
      | (with_reducible refine LeO.bind ?_ (fun _ => ?_))
      | exact ih0 _ _ _ _ _ _ _ _ _
      | exact impl_TripleChild.mono _ _ _ _ _
      | exact impl_TripleIs.mono _ _ _ _
      | exact impl_TripleParent.mono _ _ _ _
      | exact spec_DrawTripleParent.mono _ _
      | exact spec_TripleParent.mono _ _ _ _
      | exact LeO.none _
      | refine LeO.ite ?_ ?_
      | refine LeO.bind ?_ (fun _ => ?_)
set_option maxHeartbeats 8000000 in
set_option maxRecDepth 100000 in
theorem laws_FnParent.calls (k : Nat) (A0 : Option Addr) (c0 : Nat) (l0 : List Int) (r : Bool) (w : World) (hr0 : Kd.C (Kd.int .u8) w A0 l0.length l0) (hc0 : l0.length ≤ c0) (h : laws_FnParent.f k l0 = some r) :
    Calls Try.prog 12 #[.slice A0 l0.length c0] w fun e w' => e = .returned (.bool r) ∧ Below w.heap.size w w' := by
  have HR0 := Aside0.mk hr0
  have HC0 := Aside0.mk hc0
  clear hr0 hc0
  have HB := Aside0.mk (Below.refl w.heap.size w)
  have H : (if (l0.length : Int) > 1048576 then (some true) else ((spec_DrawTripleParent.f k l0).bind fun bt199 => ((impl_TripleParent.f k bt199.1 bt199.2.1 bt199.2.2).bind fun bt202 => ((spec_TripleParent.f k bt199.1 bt199.2.1 bt199.2.2).bind fun bt207 => (if (bt202.2.2.2.2 != bt207.2.2.2.2) = true then (laws_FnParent.j0 k bt199.1 bt199.2.1 bt199.2.2 bt202.1 bt202.2.1 bt202.2.2.1 bt202.2.2.2.1 bt202.2.2.2.2 true) else (if bt202.1 = bt207.1 then (if bt202.2.1 = bt207.2.1 then (if bt202.2.2.1 = bt207.2.2.1 then (laws_FnParent.j0 k bt199.1 bt199.2.1 bt199.2.2 bt202.1 bt202.2.1 bt202.2.2.1 bt202.2.2.2.1 bt202.2.2.2.2 (bt202.2.2.2.1 != bt207.2.2.2.1)) else (laws_FnParent.j0 k bt199.1 bt199.2.1 bt199.2.2 bt202.1 bt202.2.1 bt202.2.2.1 bt202.2.2.2.1 bt202.2.2.2.2 true)) else (laws_FnParent.j0 k bt199.1 bt199.2.1 bt199.2.2 bt202.1 bt202.2.1 bt202.2.2.1 bt202.2.2.2.1 bt202.2.2.2.2 true)) else (laws_FnParent.j0 k bt199.1 bt199.2.1 bt199.2.2 bt202.1 bt202.2.1 bt202.2.2.1 bt202.2.2.2.1 bt202.2.2.2.2 true))))))) = some r := h
  clear h
  by_cases c2 : (l0.length : Int) > 1048576
  · rw [if_pos c2] at H
    have c2b0 : decide (1048576 < (l0.length : Int)) = true := decide_eq_true c2
    have c2b1 : decide (1048576 < l0.length) = true := decide_eq_true (by omega)
    clear c2
    obtain rfl := Option.some.inj H
    go_enter Try.func12, Try.ntmps12
    go_wp2
    go_ret
    exact ⟨by first | rfl | (simp [errW_none, errW_some] <;> rfl) | (simp [*, errW_none, errW_some] <;> rfl), by repeat (first | (with_reducible first | exact HB.out | apply below_alloc | apply pw_below_drewN | apply below_drew1) | exact HB.out | exact Below.refl _ _)⟩
  · rw [if_neg c2] at H
    have c2b0 : decide (1048576 < (l0.length : Int)) = false := decide_eq_false c2
    have c2b1 : decide (1048576 < l0.length) = false := decide_eq_false (by omega)
    clear c2
    replace H := Option.bind_eq_some_iff.mp H
    obtain ⟨⟨t199, t200, t201⟩, A30, H⟩ := H
    replace H : ((impl_TripleParent.f k t199 t200 t201).bind fun bt202 => ((spec_TripleParent.f k t199 t200 t201).bind fun bt207 => (if (bt202.2.2.2.2 != bt207.2.2.2.2) = true then (laws_FnParent.j0 k t199 t200 t201 bt202.1 bt202.2.1 bt202.2.2.1 bt202.2.2.2.1 bt202.2.2.2.2 true) else (if bt202.1 = bt207.1 then (if bt202.2.1 = bt207.2.1 then (if bt202.2.2.1 = bt207.2.2.1 then (laws_FnParent.j0 k t199 t200 t201 bt202.1 bt202.2.1 bt202.2.2.1 bt202.2.2.2.1 bt202.2.2.2.2 (bt202.2.2.2.1 != bt207.2.2.2.1)) else (laws_FnParent.j0 k t199 t200 t201 bt202.1 bt202.2.1 bt202.2.2.1 bt202.2.2.2.1 bt202.2.2.2.2 true)) else (laws_FnParent.j0 k t199 t200 t201 bt202.1 bt202.2.1 bt202.2.2.1 bt202.2.2.2.1 bt202.2.2.2.2 true)) else (laws_FnParent.j0 k t199 t200 t201 bt202.1 bt202.2.1 bt202.2.2.1 bt202.2.2.2.1 bt202.2.2.2.2 true))))) = some r := H
    have A3 := Aside0.mk A30
    clear A30
    replace H := Option.bind_eq_some_iff.mp H
    obtain ⟨⟨t202, t203, t204, t205, t206⟩, A40, H⟩ := H
    replace H : ((spec_TripleParent.f k t199 t200 t201).bind fun bt207 => (if (t206 != bt207.2.2.2.2) = true then (laws_FnParent.j0 k t199 t200 t201 t202 t203 t204 t205 t206 true) else (if t202 = bt207.1 then (if t203 = bt207.2.1 then (if t204 = bt207.2.2.1 then (laws_FnParent.j0 k t199 t200 t201 t202 t203 t204 t205 t206 (t205 != bt207.2.2.2.1)) else (laws_FnParent.j0 k t199 t200 t201 t202 t203 t204 t205 t206 true)) else (laws_FnParent.j0 k t199 t200 t201 t202 t203 t204 t205 t206 true)) else (laws_FnParent.j0 k t199 t200 t201 t202 t203 t204 t205 t206 true)))) = some r := H
    have A4 := Aside0.mk A40
    clear A40
    replace H := Option.bind_eq_some_iff.mp H
    obtain ⟨⟨t207, t208, t209, t210, t211⟩, A50, H⟩ := H
    replace H : (if (t206 != t211) = true then (laws_FnParent.j0 k t199 t200 t201 t202 t203 t204 t205 t206 true) else (if t202 = t207 then (if t203 = t208 then (if t204 = t209 then (laws_FnParent.j0 k t199 t200 t201 t202 t203 t204 t205 t206 (t205 != t210)) else (laws_FnParent.j0 k t199 t200 t201 t202 t203 t204 t205 t206 true)) else (laws_FnParent.j0 k t199 t200 t201 t202 t203 t204 t205 t206 true)) else (laws_FnParent.j0 k t199 t200 t201 t202 t203 t204 t205 t206 true))) = some r := H
    have A5 := Aside0.mk A50
    clear A50
    have HC6 := Aside0.mk H
    clear H
    go_enter Try.func12, Try.ntmps12
    go_upto_region 6 with (first | ((with_reducible refine gate_callee (f := 39) rfl ?_); refine goesL_ (some 25) rfl rfl Try.func39 (by kernel_rfl) rfl #[.slice A0 l0.length c0] rfl (by (try simp only [List.map_toArray, List.map_cons, List.map_nil]); first | done | rfl | (simp only [List.length_drop, List.length_take]; rfl)) ?_; (with_reducible refine (spec_DrawTripleParent.calls k _ _ l0 t199 t200 t201 _ ?side1 ?side2 A3.out).mono ?_); (case side1 => repeat (first | exact HR0.out | (with_reducible refine Kd.C_alloc ?_ _) | (with_reducible refine Kd.C_drewN ?_ _) | (with_reducible refine Kd.C_drew ?_))); (case side2 => exact HC0.out); rintro e w7 ⟨rfl, hb⟩; refine ⟨_, rfl, ?_⟩; have n0_ := Aside0.mk (below_step (by repeat (first | (with_reducible first | exact HB.out | apply below_alloc | apply pw_below_drewN | apply below_drew1) | exact HB.out | exact Below.refl _ _)) hb); try clear HB; have HB := n0_; clear n0_; (try clear hb); (try clear hb2); (try clear hk); (try clear hi)) | ((with_reducible refine gate_callee (f := 33) rfl ?_); refine goesL_ (some 33) rfl rfl Try.func33 (by kernel_rfl) rfl #[.int .i64 t199, .int .i64 t200, .int .i64 t201] rfl (by (try simp only [List.map_toArray, List.map_cons, List.map_nil]); first | done | rfl | (simp only [List.length_drop, List.length_take]; rfl)) ?_; (with_reducible refine (impl_TripleParent.calls k t199 t200 t201 t202 t203 t204 t205 t206 _ A4.out).mono ?_); rintro e w8 ⟨rfl, hb⟩; refine ⟨_, rfl, ?_⟩; have n0_ := Aside0.mk (below_step (by repeat (first | (with_reducible first | exact HB.out | apply below_alloc | apply pw_below_drewN | apply below_drew1) | exact HB.out | exact Below.refl _ _)) hb); try clear HB; have HB := n0_; clear n0_; (try clear hb); (try clear hb2); (try clear hk); (try clear hi)) | ((with_reducible refine gate_callee (f := 32) rfl ?_); refine goesL_ (some 43) rfl rfl Try.func32 (by kernel_rfl) rfl #[.int .i64 t199, .int .i64 t200, .int .i64 t201] rfl (by (try simp only [List.map_toArray, List.map_cons, List.map_nil]); first | done | rfl | (simp only [List.length_drop, List.length_take]; rfl)) ?_; (with_reducible refine (spec_TripleParent.calls k t199 t200 t201 t207 t208 t209 t210 t211 _ A5.out).mono ?_); rintro e w9 ⟨rfl, hb⟩; refine ⟨_, rfl, ?_⟩; have n0_ := Aside0.mk (below_step (by repeat (first | (with_reducible first | exact HB.out | apply below_alloc | apply pw_below_drewN | apply below_drew1) | exact HB.out | exact Below.refl _ _)) hb); try clear HB; have HB := n0_; clear n0_; (try clear hb); (try clear hb2); (try clear hk); (try clear hi)))
    (try simp only [Act.put, List.setIfInBounds_toArray, List.set_cons_zero, List.set_cons_succ])
    go_cut [71] (fun v71 wc => ∃ (kq : Nat) (x71_5 : Bool), v71 = .bool x71_5 ∧ Aside0 (laws_FnParent.j0 kq t199 t200 t201 t202 t203 t204 t205 t206 x71_5 = some r) ∧ Aside0 (kq ≤ k) ∧ Aside0 (Below w.heap.size w wc))
    case first =>
      have H := HC6.out
      clear HC6
      by_cases c10 : (t206 != t211) = true
      · rw [if_pos c10] at H
        have c10b0 : (t206 != t211) = true := c10
        (try (have c10b1 : decide (t206 = t211) = false := by simpa using c10))
        (try (have c10b2 : (t206 == t211) = false := by simpa using c10))
        (try (have c10b3 : ¬ (t206 = t211) := by simpa using c10))
        clear c10
        (first | rw [c10b0] | (simp only [i64_w, i32_w]; rw [c10b0]) | skip)
        have H' := Aside0.mk H
        clear H
        go_wp2
        go_meet
        case rel => exact ⟨_, (true), (by first | rfl | (simp; done) | (simp [*]; done)), H', ⟨by first | omega | exact Nat.le_refl _⟩, ⟨by repeat (first | (with_reducible first | exact HB.out | apply below_alloc | apply pw_below_drewN | apply below_drew1) | exact HB.out | exact Below.refl _ _)⟩⟩
      · rw [if_neg c10] at H
        have c10b0 : (t206 != t211) = false := by simpa using c10
        (try (have c10b1 : decide (t206 = t211) = true := by simpa using c10))
        (try (have c10b2 : (t206 == t211) = true := by simpa using c10))
        clear c10
        (first | rw [c10b0] | (simp only [i64_w, i32_w]; rw [c10b0]) | skip)
        by_cases c11 : t202 = t207
        · rw [if_pos c11] at H
          have c11b0 : (t202 == t207) = true := beq_iff_eq.mpr c11
          have c11b1 : (t202 != t207) = false := bne_eq_false_iff_eq.mpr c11
          clear c11
          by_cases c12 : t203 = t208
          · rw [if_pos c12] at H
            have c12b0 : (t203 == t208) = true := beq_iff_eq.mpr c12
            have c12b1 : (t203 != t208) = false := bne_eq_false_iff_eq.mpr c12
            clear c12
            by_cases c13 : t204 = t209
            · rw [if_pos c13] at H
              have c13b0 : (t204 == t209) = true := beq_iff_eq.mpr c13
              have c13b1 : (t204 != t209) = false := bne_eq_false_iff_eq.mpr c13
              clear c13
              have H' := Aside0.mk H
              clear H
              go_wp2
              go_meet
              case rel => exact ⟨_, ((t205 != t210)), (by first | rfl | (simp; done) | (simp [*]; done)), H', ⟨by first | omega | exact Nat.le_refl _⟩, ⟨by repeat (first | (with_reducible first | exact HB.out | apply below_alloc | apply pw_below_drewN | apply below_drew1) | exact HB.out | exact Below.refl _ _)⟩⟩
            · rw [if_neg c13] at H
              have c13b0 : (t204 == t209) = false := beq_eq_false_iff_ne.mpr c13
              have c13b1 : (t204 != t209) = true := bne_iff_ne.mpr c13
              have H' := Aside0.mk H
              clear H
              go_wp2
              go_meet
              case rel => exact ⟨_, (true), (by first | rfl | (simp; done) | (simp [*]; done)), H', ⟨by first | omega | exact Nat.le_refl _⟩, ⟨by repeat (first | (with_reducible first | exact HB.out | apply below_alloc | apply pw_below_drewN | apply below_drew1) | exact HB.out | exact Below.refl _ _)⟩⟩
          · rw [if_neg c12] at H
            have c12b0 : (t203 == t208) = false := beq_eq_false_iff_ne.mpr c12
            have c12b1 : (t203 != t208) = true := bne_iff_ne.mpr c12
            have H' := Aside0.mk H
            clear H
            go_wp2
            go_meet
            case rel => exact ⟨_, (true), (by first | rfl | (simp; done) | (simp [*]; done)), H', ⟨by first | omega | exact Nat.le_refl _⟩, ⟨by repeat (first | (with_reducible first | exact HB.out | apply below_alloc | apply pw_below_drewN | apply below_drew1) | exact HB.out | exact Below.refl _ _)⟩⟩
        · rw [if_neg c11] at H
          have c11b0 : (t202 == t207) = false := beq_eq_false_iff_ne.mpr c11
          have c11b1 : (t202 != t207) = true := bne_iff_ne.mpr c11
          have H' := Aside0.mk H
          clear H
          go_wp2
          go_meet
          case rel => exact ⟨_, (true), (by first | rfl | (simp; done) | (simp [*]; done)), H', ⟨by first | omega | exact Nat.le_refl _⟩, ⟨by repeat (first | (with_reducible first | exact HB.out | apply below_alloc | apply pw_below_drewN | apply below_drew1) | exact HB.out | exact Below.refl _ _)⟩⟩
    case rest =>
      clear HC6
      try clear c1
      try clear c2
      try clear c2b0
      try clear c2b1
      try clear p2
      try clear c3
      try clear c10
      try clear c10b0
      try clear c10b1
      try clear c10b2
      try clear c11
      try clear c11b0
      try clear c11b1
      try clear c12
      try clear c12b0
      try clear c12b1
      try clear c13
      try clear c13b0
      try clear c13b1
      obtain ⟨kq, x71_5, rfl, HA, HJ5, HB⟩ := hcut
      cases kq with
      | zero => exact absurd HA.out (by simp [laws_FnParent.j0])
      | succ kj5 =>
        have H := HA.out
        clear HA
        simp only [laws_FnParent.j0] at H
        by_cases c14 : x71_5 = true
        · subst c14
          have H1 : (some false) = some r := by rw [if_pos rfl] at H; exact H
          clear H
          have H := H1
          clear H1
          obtain rfl := Option.some.inj H
          go_wp2
          go_ret
          exact ⟨by first | rfl | (simp [errW_none, errW_some] <;> rfl) | (simp [*, errW_none, errW_some] <;> rfl), by repeat (first | (with_reducible first | exact HB.out | apply below_alloc | apply pw_below_drewN | apply below_drew1) | exact HB.out | exact Below.refl _ _)⟩
        · replace c14 := Bool.eq_false_iff.mpr c14
          subst c14
          have H1 : (if t206 = true then ((impl_TripleChild.f kj5 t202 t203 t204 t205).bind fun bt212 => (if bt212.2.2.2 = true then (if bt212.1 = t199 then (if bt212.2.1 = t200 then (if bt212.2.2.1 = t201 then (some (decide (t204 < t201))) else (some false)) else (some false)) else (some false)) else (some false))) else ((impl_TripleIs.f kj5 t199 t200 t201).bind fun t216 => (if t216 = true then (if t199 = 3 then (if t200 = 4 then (some (t201 == 5)) else (some false)) else (some false)) else (some true)))) = some r := by rw [if_neg (show ¬ (false = true) by decide)] at H; exact H
          clear H
          have H := H1
          clear H1
          by_cases c15 : t206 = true
          · subst c15
            have H1 : ((impl_TripleChild.f kj5 t202 t203 t204 t205).bind fun bt212 => (if bt212.2.2.2 = true then (if bt212.1 = t199 then (if bt212.2.1 = t200 then (if bt212.2.2.1 = t201 then (some (decide (t204 < t201))) else (some false)) else (some false)) else (some false)) else (some false))) = some r := by rw [if_pos rfl] at H; exact H
            clear H
            have H := H1
            clear H1
            replace H := Option.bind_eq_some_iff.mp H
            obtain ⟨⟨t212, t213, t214, t215⟩, A160, H⟩ := H
            replace H : (if t215 = true then (if t212 = t199 then (if t213 = t200 then (if t214 = t201 then (some (decide (t204 < t201))) else (some false)) else (some false)) else (some false)) else (some false)) = some r := H
            have A16 := Aside0.mk A160
            clear A160
            by_cases c17 : t215 = true
            · subst c17
              have H1 : (if t212 = t199 then (if t213 = t200 then (if t214 = t201 then (some (decide (t204 < t201))) else (some false)) else (some false)) else (some false)) = some r := by rw [if_pos rfl] at H; exact H
              clear H
              have H := H1
              clear H1
              by_cases c18 : t212 = t199
              · rw [if_pos c18] at H
                have c18b0 : (t212 == t199) = true := beq_iff_eq.mpr c18
                have c18b1 : (t212 != t199) = false := bne_eq_false_iff_eq.mpr c18
                clear c18
                by_cases c19 : t213 = t200
                · rw [if_pos c19] at H
                  have c19b0 : (t213 == t200) = true := beq_iff_eq.mpr c19
                  have c19b1 : (t213 != t200) = false := bne_eq_false_iff_eq.mpr c19
                  clear c19
                  by_cases c20 : t214 = t201
                  · rw [if_pos c20] at H
                    have c20b0 : (t214 == t201) = true := beq_iff_eq.mpr c20
                    have c20b1 : (t214 != t201) = false := bne_eq_false_iff_eq.mpr c20
                    clear c20
                    obtain rfl := Option.some.inj H
                    go_wp2_with (first | ((with_reducible refine gate_callee (f := 28) rfl ?_); refine goesL_ (some 96) rfl rfl Try.func28 (by kernel_rfl) rfl #[.int .i64 t202, .int .i64 t203, .int .i64 t204, .int .i64 t205] rfl (by (try simp only [List.map_toArray, List.map_cons, List.map_nil]); first | done | rfl | (simp only [List.length_drop, List.length_take]; rfl)) ?_; (with_reducible refine (impl_TripleChild.calls kj5 t202 t203 t204 t205 t212 t213 t214 true _ A16.out).mono ?_); rintro e w21 ⟨rfl, hb⟩; refine ⟨_, rfl, ?_⟩; have n0_ := Aside0.mk (below_step (by repeat (first | (with_reducible first | exact HB.out | apply below_alloc | apply pw_below_drewN | apply below_drew1) | exact HB.out | exact Below.refl _ _)) hb); try clear HB; have HB := n0_; clear n0_; (try clear hb); (try clear hb2); (try clear hk); (try clear hi)))
                    go_ret
                    exact ⟨by first | rfl | (simp [errW_none, errW_some] <;> rfl) | (simp [*, errW_none, errW_some] <;> rfl), by repeat (first | (with_reducible first | exact HB.out | apply below_alloc | apply pw_below_drewN | apply below_drew1) | exact HB.out | exact Below.refl _ _)⟩
                  · rw [if_neg c20] at H
                    have c20b0 : (t214 == t201) = false := beq_eq_false_iff_ne.mpr c20
                    have c20b1 : (t214 != t201) = true := bne_iff_ne.mpr c20
                    obtain rfl := Option.some.inj H
                    go_wp2_with (first | ((with_reducible refine gate_callee (f := 28) rfl ?_); refine goesL_ (some 96) rfl rfl Try.func28 (by kernel_rfl) rfl #[.int .i64 t202, .int .i64 t203, .int .i64 t204, .int .i64 t205] rfl (by (try simp only [List.map_toArray, List.map_cons, List.map_nil]); first | done | rfl | (simp only [List.length_drop, List.length_take]; rfl)) ?_; (with_reducible refine (impl_TripleChild.calls kj5 t202 t203 t204 t205 t212 t213 t214 true _ A16.out).mono ?_); rintro e w22 ⟨rfl, hb⟩; refine ⟨_, rfl, ?_⟩; have n0_ := Aside0.mk (below_step (by repeat (first | (with_reducible first | exact HB.out | apply below_alloc | apply pw_below_drewN | apply below_drew1) | exact HB.out | exact Below.refl _ _)) hb); try clear HB; have HB := n0_; clear n0_; (try clear hb); (try clear hb2); (try clear hk); (try clear hi)))
                    go_ret
                    exact ⟨by first | rfl | (simp [errW_none, errW_some] <;> rfl) | (simp [*, errW_none, errW_some] <;> rfl), by repeat (first | (with_reducible first | exact HB.out | apply below_alloc | apply pw_below_drewN | apply below_drew1) | exact HB.out | exact Below.refl _ _)⟩
                · rw [if_neg c19] at H
                  have c19b0 : (t213 == t200) = false := beq_eq_false_iff_ne.mpr c19
                  have c19b1 : (t213 != t200) = true := bne_iff_ne.mpr c19
                  obtain rfl := Option.some.inj H
                  go_wp2_with (first | ((with_reducible refine gate_callee (f := 28) rfl ?_); refine goesL_ (some 96) rfl rfl Try.func28 (by kernel_rfl) rfl #[.int .i64 t202, .int .i64 t203, .int .i64 t204, .int .i64 t205] rfl (by (try simp only [List.map_toArray, List.map_cons, List.map_nil]); first | done | rfl | (simp only [List.length_drop, List.length_take]; rfl)) ?_; (with_reducible refine (impl_TripleChild.calls kj5 t202 t203 t204 t205 t212 t213 t214 true _ A16.out).mono ?_); rintro e w23 ⟨rfl, hb⟩; refine ⟨_, rfl, ?_⟩; have n0_ := Aside0.mk (below_step (by repeat (first | (with_reducible first | exact HB.out | apply below_alloc | apply pw_below_drewN | apply below_drew1) | exact HB.out | exact Below.refl _ _)) hb); try clear HB; have HB := n0_; clear n0_; (try clear hb); (try clear hb2); (try clear hk); (try clear hi)))
                  go_ret
                  exact ⟨by first | rfl | (simp [errW_none, errW_some] <;> rfl) | (simp [*, errW_none, errW_some] <;> rfl), by repeat (first | (with_reducible first | exact HB.out | apply below_alloc | apply pw_below_drewN | apply below_drew1) | exact HB.out | exact Below.refl _ _)⟩
              · rw [if_neg c18] at H
                have c18b0 : (t212 == t199) = false := beq_eq_false_iff_ne.mpr c18
                have c18b1 : (t212 != t199) = true := bne_iff_ne.mpr c18
                obtain rfl := Option.some.inj H
                go_wp2_with (first | ((with_reducible refine gate_callee (f := 28) rfl ?_); refine goesL_ (some 96) rfl rfl Try.func28 (by kernel_rfl) rfl #[.int .i64 t202, .int .i64 t203, .int .i64 t204, .int .i64 t205] rfl (by (try simp only [List.map_toArray, List.map_cons, List.map_nil]); first | done | rfl | (simp only [List.length_drop, List.length_take]; rfl)) ?_; (with_reducible refine (impl_TripleChild.calls kj5 t202 t203 t204 t205 t212 t213 t214 true _ A16.out).mono ?_); rintro e w24 ⟨rfl, hb⟩; refine ⟨_, rfl, ?_⟩; have n0_ := Aside0.mk (below_step (by repeat (first | (with_reducible first | exact HB.out | apply below_alloc | apply pw_below_drewN | apply below_drew1) | exact HB.out | exact Below.refl _ _)) hb); try clear HB; have HB := n0_; clear n0_; (try clear hb); (try clear hb2); (try clear hk); (try clear hi)))
                go_ret
                exact ⟨by first | rfl | (simp [errW_none, errW_some] <;> rfl) | (simp [*, errW_none, errW_some] <;> rfl), by repeat (first | (with_reducible first | exact HB.out | apply below_alloc | apply pw_below_drewN | apply below_drew1) | exact HB.out | exact Below.refl _ _)⟩
            · replace c17 := Bool.eq_false_iff.mpr c17
              subst c17
              have H1 : (some false) = some r := by rw [if_neg (show ¬ (false = true) by decide)] at H; exact H
              clear H
              have H := H1
              clear H1
              obtain rfl := Option.some.inj H
              go_wp2_with (first | ((with_reducible refine gate_callee (f := 28) rfl ?_); refine goesL_ (some 96) rfl rfl Try.func28 (by kernel_rfl) rfl #[.int .i64 t202, .int .i64 t203, .int .i64 t204, .int .i64 t205] rfl (by (try simp only [List.map_toArray, List.map_cons, List.map_nil]); first | done | rfl | (simp only [List.length_drop, List.length_take]; rfl)) ?_; (with_reducible refine (impl_TripleChild.calls kj5 t202 t203 t204 t205 t212 t213 t214 false _ A16.out).mono ?_); rintro e w25 ⟨rfl, hb⟩; refine ⟨_, rfl, ?_⟩; have n0_ := Aside0.mk (below_step (by repeat (first | (with_reducible first | exact HB.out | apply below_alloc | apply pw_below_drewN | apply below_drew1) | exact HB.out | exact Below.refl _ _)) hb); try clear HB; have HB := n0_; clear n0_; (try clear hb); (try clear hb2); (try clear hk); (try clear hi)))
              go_ret
              exact ⟨by first | rfl | (simp [errW_none, errW_some] <;> rfl) | (simp [*, errW_none, errW_some] <;> rfl), by repeat (first | (with_reducible first | exact HB.out | apply below_alloc | apply pw_below_drewN | apply below_drew1) | exact HB.out | exact Below.refl _ _)⟩
          · replace c15 := Bool.eq_false_iff.mpr c15
            subst c15
            have H1 : ((impl_TripleIs.f kj5 t199 t200 t201).bind fun t216 => (if t216 = true then (if t199 = 3 then (if t200 = 4 then (some (t201 == 5)) else (some false)) else (some false)) else (some true))) = some r := by rw [if_neg (show ¬ (false = true) by decide)] at H; exact H
            clear H
            have H := H1
            clear H1
            replace H := Option.bind_eq_some_iff.mp H
            obtain ⟨t216, A260, H⟩ := H
            replace H : (if t216 = true then (if t199 = 3 then (if t200 = 4 then (some (t201 == 5)) else (some false)) else (some false)) else (some true)) = some r := H
            have A26 := Aside0.mk A260
            clear A260
            by_cases c27 : t216 = true
            · subst c27
              have H1 : (if t199 = 3 then (if t200 = 4 then (some (t201 == 5)) else (some false)) else (some false)) = some r := by rw [if_pos rfl] at H; exact H
              clear H
              have H := H1
              clear H1
              by_cases c28 : t199 = 3
              · rw [if_pos c28] at H
                have c28b0 : (t199 == 3) = true := beq_iff_eq.mpr c28
                have c28b1 : (t199 != 3) = false := bne_eq_false_iff_eq.mpr c28
                clear c28
                by_cases c29 : t200 = 4
                · rw [if_pos c29] at H
                  have c29b0 : (t200 == 4) = true := beq_iff_eq.mpr c29
                  have c29b1 : (t200 != 4) = false := bne_eq_false_iff_eq.mpr c29
                  clear c29
                  obtain rfl := Option.some.inj H
                  go_wp2_with (first | ((with_reducible refine gate_callee (f := 29) rfl ?_); refine goesL_ (some 77) rfl rfl Try.func29 (by kernel_rfl) rfl #[.int .i64 t199, .int .i64 t200, .int .i64 t201] rfl (by (try simp only [List.map_toArray, List.map_cons, List.map_nil]); first | done | rfl | (simp only [List.length_drop, List.length_take]; rfl)) ?_; (with_reducible refine (impl_TripleIs.calls kj5 t199 t200 t201 true _ A26.out).mono ?_); rintro e w30 ⟨rfl, hb⟩; refine ⟨_, rfl, ?_⟩; have n0_ := Aside0.mk (below_step (by repeat (first | (with_reducible first | exact HB.out | apply below_alloc | apply pw_below_drewN | apply below_drew1) | exact HB.out | exact Below.refl _ _)) hb); try clear HB; have HB := n0_; clear n0_; (try clear hb); (try clear hb2); (try clear hk); (try clear hi)))
                  go_ret
                  exact ⟨by first | rfl | (simp [errW_none, errW_some] <;> rfl) | (simp [*, errW_none, errW_some] <;> rfl), by repeat (first | (with_reducible first | exact HB.out | apply below_alloc | apply pw_below_drewN | apply below_drew1) | exact HB.out | exact Below.refl _ _)⟩
                · rw [if_neg c29] at H
                  have c29b0 : (t200 == 4) = false := beq_eq_false_iff_ne.mpr c29
                  have c29b1 : (t200 != 4) = true := bne_iff_ne.mpr c29
                  obtain rfl := Option.some.inj H
                  go_wp2_with (first | ((with_reducible refine gate_callee (f := 29) rfl ?_); refine goesL_ (some 77) rfl rfl Try.func29 (by kernel_rfl) rfl #[.int .i64 t199, .int .i64 t200, .int .i64 t201] rfl (by (try simp only [List.map_toArray, List.map_cons, List.map_nil]); first | done | rfl | (simp only [List.length_drop, List.length_take]; rfl)) ?_; (with_reducible refine (impl_TripleIs.calls kj5 t199 t200 t201 true _ A26.out).mono ?_); rintro e w31 ⟨rfl, hb⟩; refine ⟨_, rfl, ?_⟩; have n0_ := Aside0.mk (below_step (by repeat (first | (with_reducible first | exact HB.out | apply below_alloc | apply pw_below_drewN | apply below_drew1) | exact HB.out | exact Below.refl _ _)) hb); try clear HB; have HB := n0_; clear n0_; (try clear hb); (try clear hb2); (try clear hk); (try clear hi)))
                  go_ret
                  exact ⟨by first | rfl | (simp [errW_none, errW_some] <;> rfl) | (simp [*, errW_none, errW_some] <;> rfl), by repeat (first | (with_reducible first | exact HB.out | apply below_alloc | apply pw_below_drewN | apply below_drew1) | exact HB.out | exact Below.refl _ _)⟩
              · rw [if_neg c28] at H
                have c28b0 : (t199 == 3) = false := beq_eq_false_iff_ne.mpr c28
                have c28b1 : (t199 != 3) = true := bne_iff_ne.mpr c28
                obtain rfl := Option.some.inj H
                go_wp2_with (first | ((with_reducible refine gate_callee (f := 29) rfl ?_); refine goesL_ (some 77) rfl rfl Try.func29 (by kernel_rfl) rfl #[.int .i64 t199, .int .i64 t200, .int .i64 t201] rfl (by (try simp only [List.map_toArray, List.map_cons, List.map_nil]); first | done | rfl | (simp only [List.length_drop, List.length_take]; rfl)) ?_; (with_reducible refine (impl_TripleIs.calls kj5 t199 t200 t201 true _ A26.out).mono ?_); rintro e w32 ⟨rfl, hb⟩; refine ⟨_, rfl, ?_⟩; have n0_ := Aside0.mk (below_step (by repeat (first | (with_reducible first | exact HB.out | apply below_alloc | apply pw_below_drewN | apply below_drew1) | exact HB.out | exact Below.refl _ _)) hb); try clear HB; have HB := n0_; clear n0_; (try clear hb); (try clear hb2); (try clear hk); (try clear hi)))
                go_ret
                exact ⟨by first | rfl | (simp [errW_none, errW_some] <;> rfl) | (simp [*, errW_none, errW_some] <;> rfl), by repeat (first | (with_reducible first | exact HB.out | apply below_alloc | apply pw_below_drewN | apply below_drew1) | exact HB.out | exact Below.refl _ _)⟩
            · replace c27 := Bool.eq_false_iff.mpr c27
              subst c27
              have H1 : (some true) = some r := by rw [if_neg (show ¬ (false = true) by decide)] at H; exact H
              clear H
              have H := H1
              clear H1
              obtain rfl := Option.some.inj H
              go_wp2_with (first | ((with_reducible refine gate_callee (f := 29) rfl ?_); refine goesL_ (some 77) rfl rfl Try.func29 (by kernel_rfl) rfl #[.int .i64 t199, .int .i64 t200, .int .i64 t201] rfl (by (try simp only [List.map_toArray, List.map_cons, List.map_nil]); first | done | rfl | (simp only [List.length_drop, List.length_take]; rfl)) ?_; (with_reducible refine (impl_TripleIs.calls kj5 t199 t200 t201 false _ A26.out).mono ?_); rintro e w33 ⟨rfl, hb⟩; refine ⟨_, rfl, ?_⟩; have n0_ := Aside0.mk (below_step (by repeat (first | (with_reducible first | exact HB.out | apply below_alloc | apply pw_below_drewN | apply below_drew1) | exact HB.out | exact Below.refl _ _)) hb); try clear HB; have HB := n0_; clear n0_; (try clear hb); (try clear hb2); (try clear hk); (try clear hi)))
              go_ret
              exact ⟨by first | rfl | (simp [errW_none, errW_some] <;> rfl) | (simp [*, errW_none, errW_some] <;> rfl), by repeat (first | (with_reducible first | exact HB.out | apply below_alloc | apply pw_below_drewN | apply below_drew1) | exact HB.out | exact Below.refl _ _)⟩

/-- THE ONE PURE STATEMENT of laws_FnParent: yours. -/
def laws_FnParent.Pure : Prop := ∀ (l0 : List Int), l0.length ≤ maxLen → l0.length * 1 ≤ 140737488351232 → (∀ x ∈ l0, (Lit.int .u8 x).wf = true) → ∃ k, laws_FnParent.f k l0 = some true
theorem laws_FnParent.walk (P : laws_FnParent.Pure) (a0 : Option Addr) (len0 cap0 : Nat) (z0 : List Int) (w : World) (w0 : (a0 = none ∧ len0 = 0 ∧ cap0 = 0 ∧ z0 = []) ∨ ∃ x, a0 = some x ∧ len0 ≤ cap0 ∧ cap0 ≤ maxLen ∧ z0.length = cap0 ∧ (∀ i, i < z0.length → w.cell? (x.add i) = some (.int .u8 (z0.getD i 0))) ∧ ∀ n ∈ z0, (Lit.int .u8 n).wf = true) (y0 : len0 * 1 ≤ 140737488351232) :
    Calls Try.prog 12 #[.slice a0 len0 cap0] w fun e w' => e = .returned (.bool true) ∧ Below w.heap.size w w' := by
  obtain ⟨l0, rfl, hr0, hm0, hw0, hc0⟩ := ReadsInt.ofRowC w0
  obtain ⟨k, h⟩ := P l0 hm0 y0 hw0
  refine (laws_FnParent.calls k _ _ l0 true w (Kd.C_of_reads (d := (0 : Int)) (h1 := fun _ => rfl) hr0) hc0 h).mono ?_
  rintro e w' ⟨rfl, hd⟩
  exact ⟨rfl, hd⟩

end Go.Proofs.Ytpmhninmblgjoaa.PFnParent
