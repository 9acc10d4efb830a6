-- Written by a program of this session (wip/print2.py): the functions that the law reaches, plain, and the walks.
import Derived.Test.YtpmhninmblgjoaaPFnChildx0
import Derived.Test.YtpmhninmblgjoaaPFnChildx1
import Derived.Test.YtpmhninmblgjoaaPFnChildx2
import Derived.Test.YtpmhninmblgjoaaPFnChildx3
namespace Go.Proofs.Ytpmhninmblgjoaa.PFnChild
open Go.RowKit Go.Proofs.YtpmhninmblgjoaaW.PrintWords Go.Proofs.YtpmhninmblgjoaaW.PrintLast Go.Proofs.YtpmhninmblgjoaaW.PrintMore
attribute [local go_sem] max2_int min2_int max_two min_two max_three min_three max_four min_four   -- for this text's walks alone
set_option linter.unusedVariables false
set_option linter.unusedSimpArgs false

/-! ### spec_DrawTripleChild: function 40 -/
def spec_DrawTripleChild.f (k : Nat) (l0 : List Int) : Option (Int × Int × Int × Int) := (spec_l6Open.f l0).bind fun bt198 => ((spec_l92Triple.f k bt198.1 bt198.2).bind fun bt201 => ((spec_l6Rd_pick.f k bt198.1 bt201.2.2.2 4).bind fun bt205 => ((spec_l6Rd_pick.f k bt198.1 bt205.2 12).bind fun bt207 => (some (bt201.1, bt201.2.1, bt201.2.2.1, wrap64 (bt205.1 - (wrap64 (Int.tdiv bt207.1 11))))))))
theorem spec_DrawTripleChild.mono : ∀ a0 k, LeO (spec_DrawTripleChild.f k a0) (spec_DrawTripleChild.f (k + 1) a0) := by
  intro a0 k
  unfold spec_DrawTripleChild.f
  repeat' first
      | (with_reducible exact spec_l6Rd_pick.mono _ _ _ _)
      | (with_reducible exact spec_l92Triple.mono _ _ _)
      | (with_reducible exact LeO.refl _)
      | (with_reducible exact LeO.none _)
      | (with_reducible refine LeO.ite ?_ ?_)
      | (with_reducible refine LeO.bind ?_ (fun _ => ?_))
      | exact spec_l6Rd_pick.mono _ _ _ _
      | exact spec_l92Triple.mono _ _ _
      | exact LeO.none _
      | refine LeO.ite ?_ ?_
      | refine LeO.bind ?_ (fun _ => ?_)
set_option maxHeartbeats 8000000 in
set_option maxRecDepth 100000 in
theorem spec_DrawTripleChild.calls (k : Nat) (A0 : Option Addr) (c0 : Nat) (l0 : List Int) (r1 : Int) (r2 : Int) (r3 : Int) (r4 : Int) (w : World) (hr0 : Kd.C (Kd.int .u8) w A0 l0.length l0) (hc0 : l0.length ≤ c0) (h : spec_DrawTripleChild.f k l0 = some (r1, r2, r3, r4)) :
    Calls Try.prog 40 #[.slice A0 l0.length c0] w fun e w' => e = .returned (.tuple #[.int .i64 r1, .int .i64 r2, .int .i64 r3, .int .i64 r4]) ∧ Below w.heap.size w w' := by
  have HR0 := Aside0.mk hr0
  have HC0 := Aside0.mk hc0
  clear hr0 hc0
  have HB := Aside0.mk (Below.refl w.heap.size w)
  have H : ((spec_l6Open.f l0).bind fun bt198 => ((spec_l92Triple.f k bt198.1 bt198.2).bind fun bt201 => ((spec_l6Rd_pick.f k bt198.1 bt201.2.2.2 4).bind fun bt205 => ((spec_l6Rd_pick.f k bt198.1 bt205.2 12).bind fun bt207 => (some (bt201.1, bt201.2.1, bt201.2.2.1, wrap64 (bt205.1 - (wrap64 (Int.tdiv bt207.1 11))))))))) = some (r1, r2, r3, r4) := h
  clear h
  replace H := Option.bind_eq_some_iff.mp H
  obtain ⟨⟨t198, t199⟩, A20, H⟩ := H
  replace H : ((spec_l92Triple.f k t198 t199).bind fun bt201 => ((spec_l6Rd_pick.f k t198 bt201.2.2.2 4).bind fun bt205 => ((spec_l6Rd_pick.f k t198 bt205.2 12).bind fun bt207 => (some (bt201.1, bt201.2.1, bt201.2.2.1, wrap64 (bt205.1 - (wrap64 (Int.tdiv bt207.1 11)))))))) = some (r1, r2, r3, r4) := H
  have A2 := Aside0.mk A20
  clear A20
  replace H := Option.bind_eq_some_iff.mp H
  obtain ⟨⟨t201, t202, t203, t204⟩, A30, H⟩ := H
  replace H : ((spec_l6Rd_pick.f k t198 t204 4).bind fun bt205 => ((spec_l6Rd_pick.f k t198 bt205.2 12).bind fun bt207 => (some (t201, t202, t203, wrap64 (bt205.1 - (wrap64 (Int.tdiv bt207.1 11))))))) = some (r1, r2, r3, r4) := H
  have A3 := Aside0.mk A30
  clear A30
  replace H := Option.bind_eq_some_iff.mp H
  obtain ⟨⟨t205, t206⟩, A40, H⟩ := H
  replace H : ((spec_l6Rd_pick.f k t198 t206 12).bind fun bt207 => (some (t201, t202, t203, wrap64 (t205 - (wrap64 (Int.tdiv bt207.1 11)))))) = some (r1, r2, r3, r4) := H
  have A4 := Aside0.mk A40
  clear A40
  replace H := Option.bind_eq_some_iff.mp H
  obtain ⟨⟨t207, t208⟩, A50, H⟩ := H
  replace H : (some (t201, t202, t203, wrap64 (t205 - (wrap64 (Int.tdiv t207 11))))) = some (r1, r2, r3, r4) := H
  have A5 := Aside0.mk A50
  clear A50
  simp only [Option.some.injEq, Prod.mk.injEq] at H
  obtain ⟨rfl, rfl, rfl, rfl⟩ := H
  go_enter Try.func40, Try.ntmps40
  go_wp2_with (first | ((with_reducible refine gate_callee (f := 46) rfl ?_); refine goesL_ (some 11) rfl rfl Try.func46 (by kernel_rfl) rfl #[.slice A0 l0.length c0] rfl (by (try simp only [List.map_toArray, List.map_cons, List.map_nil]); first | done | rfl | (simp only [List.length_drop, List.length_take]; rfl)) ?_; (with_reducible refine (spec_l6Open.calls _ _ l0 t198 t199 w _ ?side1 ?side2 ?side3 A2.out).mono ?_); (case side1 => repeat (first | (with_reducible first | exact HB.out | apply below_alloc | apply pw_below_drewN | apply below_drew1) | exact HB.out | exact Below.refl _ _)); (case side2 => exact HR0.out); (case side3 => exact HC0.out); rintro e w6 ⟨g200, rfl, hi, hb, hb2⟩; refine ⟨_, rfl, ?_⟩; have n0_ := Aside0.mk (hb); have n1_ := Aside0.mk (hi); try clear HB; have HB := n0_; have HI200 := n1_; clear n0_ n1_; (try clear hb); (try clear hb2); (try clear hk); (try clear hi)) | ((with_reducible refine gate_callee (f := 52) rfl ?_); refine goesL_ (some 14) rfl rfl Try.func52 (by kernel_rfl) rfl #[.pointer (some ⟨g200, 0, none⟩)] rfl (by (try simp only [List.map_toArray, List.map_cons, List.map_nil]); first | done | rfl | (simp only [List.length_drop, List.length_take]; rfl)) ?_; (with_reducible refine (spec_l92Triple.calls k g200 t198 t199 t201 t202 t203 t204 w _ ?side1 ?side2 A3.out).mono ?_); (case side1 => repeat (first | (with_reducible first | exact HI200.out | apply IsS64.alloc | apply IsS64.drewN | apply IsS64.drew | apply IsS64.set_1) | exact HI200.out)); (case side2 => repeat (first | (with_reducible first | exact HB.out | apply below_alloc | apply pw_below_drewN | apply below_drew1 | refine below_set ?_ (IsS64.ge HI200.out)) | exact HB.out)); rintro e w7 ⟨rfl, hi, hb, hk⟩; refine ⟨_, rfl, ?_⟩; have n0_ := Aside0.mk (hb); have n1_ := Aside0.mk (hi); try clear HB; clear HI200; have HB := n0_; have HI200 := n1_; clear n0_ n1_; (try clear hb); (try clear hb2); (try clear hk); (try clear hi)) | ((with_reducible refine gate_callee (f := 49) rfl ?_); refine goesL_ (some 22) rfl rfl Try.func49 (by kernel_rfl) rfl #[.pointer (some ⟨g200, 0, none⟩), .int .i64 4] rfl (by (try simp only [List.map_toArray, List.map_cons, List.map_nil]); first | done | rfl | (simp only [List.length_drop, List.length_take]; rfl)) ?_; (with_reducible refine (spec_l6Rd_pick.calls k g200 t198 t204 4 t205 t206 w _ ?side1 ?side2 A4.out).mono ?_); (case side1 => repeat (first | (with_reducible first | exact HI200.out | apply IsS64.alloc | apply IsS64.drewN | apply IsS64.drew | apply IsS64.set_1) | exact HI200.out)); (case side2 => repeat (first | (with_reducible first | exact HB.out | apply below_alloc | apply pw_below_drewN | apply below_drew1 | refine below_set ?_ (IsS64.ge HI200.out)) | exact HB.out)); rintro e w8 ⟨rfl, hi, hb, hk⟩; refine ⟨_, rfl, ?_⟩; have n0_ := Aside0.mk (hb); have n1_ := Aside0.mk (hi); try clear HB; clear HI200; have HB := n0_; have HI200 := n1_; clear n0_ n1_; (try clear hb); (try clear hb2); (try clear hk); (try clear hi)) | ((with_reducible refine gate_callee (f := 49) rfl ?_); refine goesL_ (some 24) rfl rfl Try.func49 (by kernel_rfl) rfl #[.pointer (some ⟨g200, 0, none⟩), .int .i64 12] rfl (by (try simp only [List.map_toArray, List.map_cons, List.map_nil]); first | done | rfl | (simp only [List.length_drop, List.length_take]; rfl)) ?_; (with_reducible refine (spec_l6Rd_pick.calls k g200 t198 t206 12 t207 t208 w _ ?side1 ?side2 A5.out).mono ?_); (case side1 => repeat (first | (with_reducible first | exact HI200.out | apply IsS64.alloc | apply IsS64.drewN | apply IsS64.drew | apply IsS64.set_1) | exact HI200.out)); (case side2 => repeat (first | (with_reducible first | exact HB.out | apply below_alloc | apply pw_below_drewN | apply below_drew1 | refine below_set ?_ (IsS64.ge HI200.out)) | exact HB.out)); rintro e w9 ⟨rfl, hi, hb, hk⟩; refine ⟨_, rfl, ?_⟩; have n0_ := Aside0.mk (hb); have n1_ := Aside0.mk (hi); try clear HB; clear HI200; have HB := n0_; have HI200 := n1_; clear n0_ n1_; (try clear hb); (try clear hb2); (try clear hk); (try clear hi)))
  refine bodyPost_ret (results_list (rs := [.tmp 2, .tmp 3, .tmp 4, .tmp 5]) rfl (by simp) (.tmp (.tmp (.tmp (.tmp .nil))))) rfl ?_
  exact ⟨by first | rfl | (simp [errW_none, errW_some] <;> rfl) | (simp [*, errW_none, errW_some] <;> rfl), by repeat (first | (with_reducible first | exact HB.out | apply below_alloc | apply pw_below_drewN | apply below_drew1 | refine below_set ?_ (IsS64.ge HI200.out)) | exact HB.out)⟩

/-! ### laws_FnChild: function 13 -/
def laws_FnChild.j0 : Nat → Int → Int → Int → Int → Int → Int → Int → Bool → Bool → Option (Bool)
  | 0, _, _, _, _, _, _, _, _, _ => none
  | k + 1, x3, x4, x5, x6, x7, x8, x9, x10, x67 => if x67 = true then (some false) else (if x10 = true then ((impl_TripleParent.f k x7 x8 x9).bind fun bt221 => (if bt221.2.2.2.2 = true then (if bt221.1 = x3 then (if bt221.2.1 = x4 then (if bt221.2.2.1 = x5 then (if bt221.2.2.2.1 = x6 then ((impl_TripleDepth.f k x7 x8 x9).bind fun t226 => ((impl_TripleDepth.f k x3 x4 x5).bind fun t227 => (some (t226 == (wrap64 (t227 + 1)))))) else (some false)) else (some false)) else (some false)) else (some false)) else (some false))) else (some true))
def laws_FnChild.f (k : Nat) (l0 : List Int) : Option (Bool) := if (l0.length : Int) > 1048576 then (some true) else ((spec_DrawTripleChild.f k l0).bind fun bt209 => ((impl_TripleChild.f k bt209.1 bt209.2.1 bt209.2.2.1 bt209.2.2.2).bind fun bt213 => ((spec_TripleChild.f k bt209.1 bt209.2.1 bt209.2.2.1 bt209.2.2.2).bind fun bt217 => (if (bt213.2.2.2 != bt217.2.2.2) = true then (laws_FnChild.j0 k bt209.1 bt209.2.1 bt209.2.2.1 bt209.2.2.2 bt213.1 bt213.2.1 bt213.2.2.1 bt213.2.2.2 true) else (if bt213.1 = bt217.1 then (if bt213.2.1 = bt217.2.1 then (laws_FnChild.j0 k bt209.1 bt209.2.1 bt209.2.2.1 bt209.2.2.2 bt213.1 bt213.2.1 bt213.2.2.1 bt213.2.2.2 (bt213.2.2.1 != bt217.2.2.1)) else (laws_FnChild.j0 k bt209.1 bt209.2.1 bt209.2.2.1 bt209.2.2.2 bt213.1 bt213.2.1 bt213.2.2.1 bt213.2.2.2 true)) else (laws_FnChild.j0 k bt209.1 bt209.2.1 bt209.2.2.1 bt209.2.2.2 bt213.1 bt213.2.1 bt213.2.2.1 bt213.2.2.2 true))))))
theorem laws_FnChild.mono_l : ∀ k, (∀ y0 y1 y2 y3 y4 y5 y6 y7 y8, LeO (laws_FnChild.j0 k y0 y1 y2 y3 y4 y5 y6 y7 y8) (laws_FnChild.j0 (k + 1) y0 y1 y2 y3 y4 y5 y6 y7 y8))
  | 0 => fun _ _ _ _ _ _ _ _ _ r h => by simp [laws_FnChild.j0] at h
  | k + 1 => by
    have ih0 := laws_FnChild.mono_l k
    · intro y0 y1 y2 y3 y4 y5 y6 y7 y8
      unfold laws_FnChild.j0
      repeat' first
      | (with_reducible exact ih0 _ _ _ _ _ _ _ _ _)
      | (with_reducible exact impl_TripleChild.mono _ _ _ _ _)
      | (with_reducible exact impl_TripleDepth.mono _ _ _ _)
      | (with_reducible exact impl_TripleParent.mono _ _ _ _)
      | (with_reducible exact spec_DrawTripleChild.mono _ _)
      | (with_reducible exact spec_TripleChild.mono _ _ _ _ _)
      | (with_reducible exact LeO.refl _)
      | (with_reducible exact LeO.none _)
      | (with_reducible refine LeO.ite ?_ ?_)
      | (with_reducible refine LeO.bind ?_ (fun _ => ?_))
      | exact ih0 _ _ _ _ _ _ _ _ _
      | exact impl_TripleChild.mono _ _ _ _ _
      | exact impl_TripleDepth.mono _ _ _ _
      | exact impl_TripleParent.mono _ _ _ _
      | exact spec_DrawTripleChild.mono _ _
      | exact spec_TripleChild.mono _ _ _ _ _
      | exact LeO.none _
      | refine LeO.ite ?_ ?_
      | refine LeO.bind ?_ (fun _ => ?_)
theorem laws_FnChild.mono : ∀ a0 k, LeO (laws_FnChild.f k a0) (laws_FnChild.f (k + 1) a0) := by
  intro a0 k
  have ih0 := laws_FnChild.mono_l k
  unfold laws_FnChild.f
  repeat' first
      | (with_reducible exact ih0 _ _ _ _ _ _ _ _ _)
      | (with_reducible exact impl_TripleChild.mono _ _ _ _ _)
      | (with_reducible exact impl_TripleDepth.mono _ _ _ _)
      | (with_reducible exact impl_TripleParent.mono _ _ _ _)
      | (with_reducible exact spec_DrawTripleChild.mono _ _)
      | (with_reducible exact spec_TripleChild.mono _ _ _ _ _)
      | (with_reducible exact LeO.refl _)
      | (with_reducible exact LeO.none _)
      | (with_reducible refine LeO.ite ?_ ?_)
      | (with_reducible refine LeO.bind ?_ (fun _ => ?_))
      | exact ih0 _ _ _ _ _ _ _ _ _
      | exact impl_TripleChild.mono _ _ _ _ _
      | exact impl_TripleDepth.mono _ _ _ _
      | exact impl_TripleParent.mono _ _ _ _
      | exact spec_DrawTripleChild.mono _ _
      | exact spec_TripleChild.mono _ _ _ _ _
      | exact LeO.none _
      | refine LeO.ite ?_ ?_
      | refine LeO.bind ?_ (fun _ => ?_)
set_option maxHeartbeats 8000000 in
set_option maxRecDepth 100000 in
theorem laws_FnChild.calls (k : Nat) (A0 : Option Addr) (c0 : Nat) (l0 : List Int) (r : Bool) (w : World) (hr0 : Kd.C (Kd.int .u8) w A0 l0.length l0) (hc0 : l0.length ≤ c0) (h : laws_FnChild.f k l0 = some r) :
    Calls Try.prog 13 #[.slice A0 l0.length c0] w fun e w' => e = .returned (.bool r) ∧ Below w.heap.size w w' := by
  have HR0 := Aside0.mk hr0
  have HC0 := Aside0.mk hc0
  clear hr0 hc0
  have HB := Aside0.mk (Below.refl w.heap.size w)
  have H : (if (l0.length : Int) > 1048576 then (some true) else ((spec_DrawTripleChild.f k l0).bind fun bt209 => ((impl_TripleChild.f k bt209.1 bt209.2.1 bt209.2.2.1 bt209.2.2.2).bind fun bt213 => ((spec_TripleChild.f k bt209.1 bt209.2.1 bt209.2.2.1 bt209.2.2.2).bind fun bt217 => (if (bt213.2.2.2 != bt217.2.2.2) = true then (laws_FnChild.j0 k bt209.1 bt209.2.1 bt209.2.2.1 bt209.2.2.2 bt213.1 bt213.2.1 bt213.2.2.1 bt213.2.2.2 true) else (if bt213.1 = bt217.1 then (if bt213.2.1 = bt217.2.1 then (laws_FnChild.j0 k bt209.1 bt209.2.1 bt209.2.2.1 bt209.2.2.2 bt213.1 bt213.2.1 bt213.2.2.1 bt213.2.2.2 (bt213.2.2.1 != bt217.2.2.1)) else (laws_FnChild.j0 k bt209.1 bt209.2.1 bt209.2.2.1 bt209.2.2.2 bt213.1 bt213.2.1 bt213.2.2.1 bt213.2.2.2 true)) else (laws_FnChild.j0 k bt209.1 bt209.2.1 bt209.2.2.1 bt209.2.2.2 bt213.1 bt213.2.1 bt213.2.2.1 bt213.2.2.2 true))))))) = some r := h
  clear h
  by_cases c2 : (l0.length : Int) > 1048576
  · rw [if_pos c2] at H
    have c2b0 : decide (1048576 < (l0.length : Int)) = true := decide_eq_true c2
    have c2b1 : decide (1048576 < l0.length) = true := decide_eq_true (by omega)
    clear c2
    obtain rfl := Option.some.inj H
    go_enter Try.func13, Try.ntmps13
    go_wp2
    go_ret
    exact ⟨by first | rfl | (simp [errW_none, errW_some] <;> rfl) | (simp [*, errW_none, errW_some] <;> rfl), by repeat (first | (with_reducible first | exact HB.out | apply below_alloc | apply pw_below_drewN | apply below_drew1) | exact HB.out | exact Below.refl _ _)⟩
  · rw [if_neg c2] at H
    have c2b0 : decide (1048576 < (l0.length : Int)) = false := decide_eq_false c2
    have c2b1 : decide (1048576 < l0.length) = false := decide_eq_false (by omega)
    clear c2
    replace H := Option.bind_eq_some_iff.mp H
    obtain ⟨⟨t209, t210, t211, t212⟩, A30, H⟩ := H
    replace H : ((impl_TripleChild.f k t209 t210 t211 t212).bind fun bt213 => ((spec_TripleChild.f k t209 t210 t211 t212).bind fun bt217 => (if (bt213.2.2.2 != bt217.2.2.2) = true then (laws_FnChild.j0 k t209 t210 t211 t212 bt213.1 bt213.2.1 bt213.2.2.1 bt213.2.2.2 true) else (if bt213.1 = bt217.1 then (if bt213.2.1 = bt217.2.1 then (laws_FnChild.j0 k t209 t210 t211 t212 bt213.1 bt213.2.1 bt213.2.2.1 bt213.2.2.2 (bt213.2.2.1 != bt217.2.2.1)) else (laws_FnChild.j0 k t209 t210 t211 t212 bt213.1 bt213.2.1 bt213.2.2.1 bt213.2.2.2 true)) else (laws_FnChild.j0 k t209 t210 t211 t212 bt213.1 bt213.2.1 bt213.2.2.1 bt213.2.2.2 true))))) = some r := H
    have A3 := Aside0.mk A30
    clear A30
    replace H := Option.bind_eq_some_iff.mp H
    obtain ⟨⟨t213, t214, t215, t216⟩, A40, H⟩ := H
    replace H : ((spec_TripleChild.f k t209 t210 t211 t212).bind fun bt217 => (if (t216 != bt217.2.2.2) = true then (laws_FnChild.j0 k t209 t210 t211 t212 t213 t214 t215 t216 true) else (if t213 = bt217.1 then (if t214 = bt217.2.1 then (laws_FnChild.j0 k t209 t210 t211 t212 t213 t214 t215 t216 (t215 != bt217.2.2.1)) else (laws_FnChild.j0 k t209 t210 t211 t212 t213 t214 t215 t216 true)) else (laws_FnChild.j0 k t209 t210 t211 t212 t213 t214 t215 t216 true)))) = some r := H
    have A4 := Aside0.mk A40
    clear A40
    replace H := Option.bind_eq_some_iff.mp H
    obtain ⟨⟨t217, t218, t219, t220⟩, A50, H⟩ := H
    replace H : (if (t216 != t220) = true then (laws_FnChild.j0 k t209 t210 t211 t212 t213 t214 t215 t216 true) else (if t213 = t217 then (if t214 = t218 then (laws_FnChild.j0 k t209 t210 t211 t212 t213 t214 t215 t216 (t215 != t219)) else (laws_FnChild.j0 k t209 t210 t211 t212 t213 t214 t215 t216 true)) else (laws_FnChild.j0 k t209 t210 t211 t212 t213 t214 t215 t216 true))) = some r := H
    have A5 := Aside0.mk A50
    clear A50
    have HC6 := Aside0.mk H
    clear H
    go_enter Try.func13, Try.ntmps13
    go_upto_region 6 with (first | ((with_reducible refine gate_callee (f := 40) rfl ?_); refine goesL_ (some 25) rfl rfl Try.func40 (by kernel_rfl) rfl #[.slice A0 l0.length c0] rfl (by (try simp only [List.map_toArray, List.map_cons, List.map_nil]); first | done | rfl | (simp only [List.length_drop, List.length_take]; rfl)) ?_; (with_reducible refine (spec_DrawTripleChild.calls k _ _ l0 t209 t210 t211 t212 _ ?side1 ?side2 A3.out).mono ?_); (case side1 => repeat (first | exact HR0.out | (with_reducible refine Kd.C_alloc ?_ _) | (with_reducible refine Kd.C_drewN ?_ _) | (with_reducible refine Kd.C_drew ?_))); (case side2 => exact HC0.out); rintro e w7 ⟨rfl, hb⟩; refine ⟨_, rfl, ?_⟩; have n0_ := Aside0.mk (below_step (by repeat (first | (with_reducible first | exact HB.out | apply below_alloc | apply pw_below_drewN | apply below_drew1) | exact HB.out | exact Below.refl _ _)) hb); try clear HB; have HB := n0_; clear n0_; (try clear hb); (try clear hb2); (try clear hk); (try clear hi)) | ((with_reducible refine gate_callee (f := 28) rfl ?_); refine goesL_ (some 35) rfl rfl Try.func28 (by kernel_rfl) rfl #[.int .i64 t209, .int .i64 t210, .int .i64 t211, .int .i64 t212] rfl (by (try simp only [List.map_toArray, List.map_cons, List.map_nil]); first | done | rfl | (simp only [List.length_drop, List.length_take]; rfl)) ?_; (with_reducible refine (impl_TripleChild.calls k t209 t210 t211 t212 t213 t214 t215 t216 _ A4.out).mono ?_); rintro e w8 ⟨rfl, hb⟩; refine ⟨_, rfl, ?_⟩; have n0_ := Aside0.mk (below_step (by repeat (first | (with_reducible first | exact HB.out | apply below_alloc | apply pw_below_drewN | apply below_drew1) | exact HB.out | exact Below.refl _ _)) hb); try clear HB; have HB := n0_; clear n0_; (try clear hb); (try clear hb2); (try clear hk); (try clear hi)) | ((with_reducible refine gate_callee (f := 31) rfl ?_); refine goesL_ (some 45) rfl rfl Try.func31 (by kernel_rfl) rfl #[.int .i64 t209, .int .i64 t210, .int .i64 t211, .int .i64 t212] rfl (by (try simp only [List.map_toArray, List.map_cons, List.map_nil]); first | done | rfl | (simp only [List.length_drop, List.length_take]; rfl)) ?_; (with_reducible refine (spec_TripleChild.calls k t209 t210 t211 t212 t217 t218 t219 t220 _ A5.out).mono ?_); rintro e w9 ⟨rfl, hb⟩; refine ⟨_, rfl, ?_⟩; have n0_ := Aside0.mk (below_step (by repeat (first | (with_reducible first | exact HB.out | apply below_alloc | apply pw_below_drewN | apply below_drew1) | exact HB.out | exact Below.refl _ _)) hb); try clear HB; have HB := n0_; clear n0_; (try clear hb); (try clear hb2); (try clear hk); (try clear hi)))
    (try simp only [Act.put, List.setIfInBounds_toArray, List.set_cons_zero, List.set_cons_succ])
    go_cut [67] (fun v67 wc => ∃ (kq : Nat) (x67_5 : Bool), v67 = .bool x67_5 ∧ Aside0 (laws_FnChild.j0 kq t209 t210 t211 t212 t213 t214 t215 t216 x67_5 = some r) ∧ Aside0 (kq ≤ k) ∧ Aside0 (Below w.heap.size w wc))
    case first =>
      have H := HC6.out
      clear HC6
      by_cases c10 : (t216 != t220) = true
      · rw [if_pos c10] at H
        have c10b0 : (t216 != t220) = true := c10
        (try (have c10b1 : decide (t216 = t220) = false := by simpa using c10))
        (try (have c10b2 : (t216 == t220) = false := by simpa using c10))
        (try (have c10b3 : ¬ (t216 = t220) := by simpa using c10))
        clear c10
        (first | rw [c10b0] | (simp only [i64_w, i32_w]; rw [c10b0]) | skip)
        have H' := Aside0.mk H
        clear H
        go_wp2
        go_meet
        case rel => exact ⟨_, (true), (by first | rfl | (simp; done) | (simp [*]; done)), H', ⟨by first | omega | exact Nat.le_refl _⟩, ⟨by repeat (first | (with_reducible first | exact HB.out | apply below_alloc | apply pw_below_drewN | apply below_drew1) | exact HB.out | exact Below.refl _ _)⟩⟩
      · rw [if_neg c10] at H
        have c10b0 : (t216 != t220) = false := by simpa using c10
        (try (have c10b1 : decide (t216 = t220) = true := by simpa using c10))
        (try (have c10b2 : (t216 == t220) = true := by simpa using c10))
        clear c10
        (first | rw [c10b0] | (simp only [i64_w, i32_w]; rw [c10b0]) | skip)
        by_cases c11 : t213 = t217
        · rw [if_pos c11] at H
          have c11b0 : (t213 == t217) = true := beq_iff_eq.mpr c11
          have c11b1 : (t213 != t217) = false := bne_eq_false_iff_eq.mpr c11
          clear c11
          by_cases c12 : t214 = t218
          · rw [if_pos c12] at H
            have c12b0 : (t214 == t218) = true := beq_iff_eq.mpr c12
            have c12b1 : (t214 != t218) = false := bne_eq_false_iff_eq.mpr c12
            clear c12
            have H' := Aside0.mk H
            clear H
            go_wp2
            go_meet
            case rel => exact ⟨_, ((t215 != t219)), (by first | rfl | (simp; done) | (simp [*]; done)), H', ⟨by first | omega | exact Nat.le_refl _⟩, ⟨by repeat (first | (with_reducible first | exact HB.out | apply below_alloc | apply pw_below_drewN | apply below_drew1) | exact HB.out | exact Below.refl _ _)⟩⟩
          · rw [if_neg c12] at H
            have c12b0 : (t214 == t218) = false := beq_eq_false_iff_ne.mpr c12
            have c12b1 : (t214 != t218) = true := bne_iff_ne.mpr c12
            have H' := Aside0.mk H
            clear H
            go_wp2
            go_meet
            case rel => exact ⟨_, (true), (by first | rfl | (simp; done) | (simp [*]; done)), H', ⟨by first | omega | exact Nat.le_refl _⟩, ⟨by repeat (first | (with_reducible first | exact HB.out | apply below_alloc | apply pw_below_drewN | apply below_drew1) | exact HB.out | exact Below.refl _ _)⟩⟩
        · rw [if_neg c11] at H
          have c11b0 : (t213 == t217) = false := beq_eq_false_iff_ne.mpr c11
          have c11b1 : (t213 != t217) = true := bne_iff_ne.mpr c11
          have H' := Aside0.mk H
          clear H
          go_wp2
          go_meet
          case rel => exact ⟨_, (true), (by first | rfl | (simp; done) | (simp [*]; done)), H', ⟨by first | omega | exact Nat.le_refl _⟩, ⟨by repeat (first | (with_reducible first | exact HB.out | apply below_alloc | apply pw_below_drewN | apply below_drew1) | exact HB.out | exact Below.refl _ _)⟩⟩
    case rest =>
      clear HC6
      try clear c1
      try clear c2
      try clear c2b0
      try clear c2b1
      try clear p2
      try clear c3
      try clear c4
      try clear c10
      try clear c10b0
      try clear c10b1
      try clear c10b2
      try clear c11
      try clear c11b0
      try clear c11b1
      try clear c12
      try clear c12b0
      try clear c12b1
      obtain ⟨kq, x67_5, rfl, HA, HJ5, HB⟩ := hcut
      cases kq with
      | zero => exact absurd HA.out (by simp [laws_FnChild.j0])
      | succ kj5 =>
        have H := HA.out
        clear HA
        simp only [laws_FnChild.j0] at H
        by_cases c13 : x67_5 = true
        · subst c13
          have H1 : (some false) = some r := by rw [if_pos rfl] at H; exact H
          clear H
          have H := H1
          clear H1
          obtain rfl := Option.some.inj H
          go_wp2
          go_ret
          exact ⟨by first | rfl | (simp [errW_none, errW_some] <;> rfl) | (simp [*, errW_none, errW_some] <;> rfl), by repeat (first | (with_reducible first | exact HB.out | apply below_alloc | apply pw_below_drewN | apply below_drew1) | exact HB.out | exact Below.refl _ _)⟩
        · replace c13 := Bool.eq_false_iff.mpr c13
          subst c13
          have H1 : (if t216 = true then ((impl_TripleParent.f kj5 t213 t214 t215).bind fun bt221 => (if bt221.2.2.2.2 = true then (if bt221.1 = t209 then (if bt221.2.1 = t210 then (if bt221.2.2.1 = t211 then (if bt221.2.2.2.1 = t212 then ((impl_TripleDepth.f kj5 t213 t214 t215).bind fun t226 => ((impl_TripleDepth.f kj5 t209 t210 t211).bind fun t227 => (some (t226 == (wrap64 (t227 + 1)))))) else (some false)) else (some false)) else (some false)) else (some false)) else (some false))) else (some true)) = some r := by rw [if_neg (show ¬ (false = true) by decide)] at H; exact H
          clear H
          have H := H1
          clear H1
          by_cases c14 : t216 = true
          · subst c14
            have H1 : ((impl_TripleParent.f kj5 t213 t214 t215).bind fun bt221 => (if bt221.2.2.2.2 = true then (if bt221.1 = t209 then (if bt221.2.1 = t210 then (if bt221.2.2.1 = t211 then (if bt221.2.2.2.1 = t212 then ((impl_TripleDepth.f kj5 t213 t214 t215).bind fun t226 => ((impl_TripleDepth.f kj5 t209 t210 t211).bind fun t227 => (some (t226 == (wrap64 (t227 + 1)))))) else (some false)) else (some false)) else (some false)) else (some false)) else (some false))) = some r := by rw [if_pos rfl] at H; exact H
            clear H
            have H := H1
            clear H1
            replace H := Option.bind_eq_some_iff.mp H
            obtain ⟨⟨t221, t222, t223, t224, t225⟩, A150, H⟩ := H
            replace H : (if t225 = true then (if t221 = t209 then (if t222 = t210 then (if t223 = t211 then (if t224 = t212 then ((impl_TripleDepth.f kj5 t213 t214 t215).bind fun t226 => ((impl_TripleDepth.f kj5 t209 t210 t211).bind fun t227 => (some (t226 == (wrap64 (t227 + 1)))))) else (some false)) else (some false)) else (some false)) else (some false)) else (some false)) = some r := H
            have A15 := Aside0.mk A150
            clear A150
            by_cases c16 : t225 = true
            · subst c16
              have H1 : (if t221 = t209 then (if t222 = t210 then (if t223 = t211 then (if t224 = t212 then ((impl_TripleDepth.f kj5 t213 t214 t215).bind fun t226 => ((impl_TripleDepth.f kj5 t209 t210 t211).bind fun t227 => (some (t226 == (wrap64 (t227 + 1)))))) else (some false)) else (some false)) else (some false)) else (some false)) = some r := by rw [if_pos rfl] at H; exact H
              clear H
              have H := H1
              clear H1
              by_cases c17 : t221 = t209
              · rw [if_pos c17] at H
                have c17b0 : (t221 == t209) = true := beq_iff_eq.mpr c17
                have c17b1 : (t221 != t209) = false := bne_eq_false_iff_eq.mpr c17
                clear c17
                by_cases c18 : t222 = t210
                · rw [if_pos c18] at H
                  have c18b0 : (t222 == t210) = true := beq_iff_eq.mpr c18
                  have c18b1 : (t222 != t210) = false := bne_eq_false_iff_eq.mpr c18
                  clear c18
                  by_cases c19 : t223 = t211
                  · rw [if_pos c19] at H
                    have c19b0 : (t223 == t211) = true := beq_iff_eq.mpr c19
                    have c19b1 : (t223 != t211) = false := bne_eq_false_iff_eq.mpr c19
                    clear c19
                    by_cases c20 : t224 = t212
                    · rw [if_pos c20] at H
                      have c20b0 : (t224 == t212) = true := beq_iff_eq.mpr c20
                      have c20b1 : (t224 != t212) = false := bne_eq_false_iff_eq.mpr c20
                      clear c20
                      replace H := Option.bind_eq_some_iff.mp H
                      obtain ⟨t226, A210, H⟩ := H
                      replace H : ((impl_TripleDepth.f kj5 t209 t210 t211).bind fun t227 => (some (t226 == (wrap64 (t227 + 1))))) = some r := H
                      have A21 := Aside0.mk A210
                      clear A210
                      replace H := Option.bind_eq_some_iff.mp H
                      obtain ⟨t227, A220, H⟩ := H
                      replace H : (some (t226 == (wrap64 (t227 + 1)))) = some r := H
                      have A22 := Aside0.mk A220
                      clear A220
                      obtain rfl := Option.some.inj H
                      go_wp2_with (first | ((with_reducible refine gate_callee (f := 33) rfl ?_); refine goesL_ (some 74) rfl rfl Try.func33 (by kernel_rfl) rfl #[.int .i64 t213, .int .i64 t214, .int .i64 t215] rfl (by (try simp only [List.map_toArray, List.map_cons, List.map_nil]); first | done | rfl | (simp only [List.length_drop, List.length_take]; rfl)) ?_; (with_reducible refine (impl_TripleParent.calls kj5 t213 t214 t215 t221 t222 t223 t224 true _ A15.out).mono ?_); rintro e w23 ⟨rfl, hb⟩; refine ⟨_, rfl, ?_⟩; have n0_ := Aside0.mk (below_step (by repeat (first | (with_reducible first | exact HB.out | apply below_alloc | apply pw_below_drewN | apply below_drew1) | exact HB.out | exact Below.refl _ _)) hb); try clear HB; have HB := n0_; clear n0_; (try clear hb); (try clear hb2); (try clear hk); (try clear hi)) | (go_at_call 35; (with_reducible refine (impl_TripleDepth.calls kj5 t213 t214 t215 t226 _ A21.out).mono ?_); rintro e w24 ⟨rfl, hb⟩; have n0_ := Aside0.mk (below_step (by repeat (first | (with_reducible first | exact HB.out | apply below_alloc | apply pw_below_drewN | apply below_drew1) | exact HB.out | exact Below.refl _ _)) hb); try clear HB; have HB := n0_; clear n0_; (try clear hb); (try clear hb2); (try clear hk); (try clear hi)) | (go_at_call 35; (with_reducible refine (impl_TripleDepth.calls kj5 t209 t210 t211 t227 _ A22.out).mono ?_); rintro e w25 ⟨rfl, hb⟩; have n0_ := Aside0.mk (below_step (by repeat (first | (with_reducible first | exact HB.out | apply below_alloc | apply pw_below_drewN | apply below_drew1) | exact HB.out | exact Below.refl _ _)) hb); try clear HB; have HB := n0_; clear n0_; (try clear hb); (try clear hb2); (try clear hk); (try clear hi)))
                      go_ret
                      exact ⟨by first | rfl | (simp [errW_none, errW_some] <;> rfl) | (simp [*, errW_none, errW_some] <;> rfl), by repeat (first | (with_reducible first | exact HB.out | apply below_alloc | apply pw_below_drewN | apply below_drew1) | exact HB.out | exact Below.refl _ _)⟩
                    · rw [if_neg c20] at H
                      have c20b0 : (t224 == t212) = false := beq_eq_false_iff_ne.mpr c20
                      have c20b1 : (t224 != t212) = true := bne_iff_ne.mpr c20
                      obtain rfl := Option.some.inj H
                      go_wp2_with (first | ((with_reducible refine gate_callee (f := 33) rfl ?_); refine goesL_ (some 74) rfl rfl Try.func33 (by kernel_rfl) rfl #[.int .i64 t213, .int .i64 t214, .int .i64 t215] rfl (by (try simp only [List.map_toArray, List.map_cons, List.map_nil]); first | done | rfl | (simp only [List.length_drop, List.length_take]; rfl)) ?_; (with_reducible refine (impl_TripleParent.calls kj5 t213 t214 t215 t221 t222 t223 t224 true _ A15.out).mono ?_); rintro e w26 ⟨rfl, hb⟩; refine ⟨_, rfl, ?_⟩; have n0_ := Aside0.mk (below_step (by repeat (first | (with_reducible first | exact HB.out | apply below_alloc | apply pw_below_drewN | apply below_drew1) | exact HB.out | exact Below.refl _ _)) hb); try clear HB; have HB := n0_; clear n0_; (try clear hb); (try clear hb2); (try clear hk); (try clear hi)))
                      go_ret
                      exact ⟨by first | rfl | (simp [errW_none, errW_some] <;> rfl) | (simp [*, errW_none, errW_some] <;> rfl), by repeat (first | (with_reducible first | exact HB.out | apply below_alloc | apply pw_below_drewN | apply below_drew1) | exact HB.out | exact Below.refl _ _)⟩
                  · rw [if_neg c19] at H
                    have c19b0 : (t223 == t211) = false := beq_eq_false_iff_ne.mpr c19
                    have c19b1 : (t223 != t211) = true := bne_iff_ne.mpr c19
                    obtain rfl := Option.some.inj H
                    go_wp2_with (first | ((with_reducible refine gate_callee (f := 33) rfl ?_); refine goesL_ (some 74) rfl rfl Try.func33 (by kernel_rfl) rfl #[.int .i64 t213, .int .i64 t214, .int .i64 t215] rfl (by (try simp only [List.map_toArray, List.map_cons, List.map_nil]); first | done | rfl | (simp only [List.length_drop, List.length_take]; rfl)) ?_; (with_reducible refine (impl_TripleParent.calls kj5 t213 t214 t215 t221 t222 t223 t224 true _ A15.out).mono ?_); rintro e w27 ⟨rfl, hb⟩; refine ⟨_, rfl, ?_⟩; have n0_ := Aside0.mk (below_step (by repeat (first | (with_reducible first | exact HB.out | apply below_alloc | apply pw_below_drewN | apply below_drew1) | exact HB.out | exact Below.refl _ _)) hb); try clear HB; have HB := n0_; clear n0_; (try clear hb); (try clear hb2); (try clear hk); (try clear hi)))
                    go_ret
                    exact ⟨by first | rfl | (simp [errW_none, errW_some] <;> rfl) | (simp [*, errW_none, errW_some] <;> rfl), by repeat (first | (with_reducible first | exact HB.out | apply below_alloc | apply pw_below_drewN | apply below_drew1) | exact HB.out | exact Below.refl _ _)⟩
                · rw [if_neg c18] at H
                  have c18b0 : (t222 == t210) = false := beq_eq_false_iff_ne.mpr c18
                  have c18b1 : (t222 != t210) = true := bne_iff_ne.mpr c18
                  obtain rfl := Option.some.inj H
                  go_wp2_with (first | ((with_reducible refine gate_callee (f := 33) rfl ?_); refine goesL_ (some 74) rfl rfl Try.func33 (by kernel_rfl) rfl #[.int .i64 t213, .int .i64 t214, .int .i64 t215] rfl (by (try simp only [List.map_toArray, List.map_cons, List.map_nil]); first | done | rfl | (simp only [List.length_drop, List.length_take]; rfl)) ?_; (with_reducible refine (impl_TripleParent.calls kj5 t213 t214 t215 t221 t222 t223 t224 true _ A15.out).mono ?_); rintro e w28 ⟨rfl, hb⟩; refine ⟨_, rfl, ?_⟩; have n0_ := Aside0.mk (below_step (by repeat (first | (with_reducible first | exact HB.out | apply below_alloc | apply pw_below_drewN | apply below_drew1) | exact HB.out | exact Below.refl _ _)) hb); try clear HB; have HB := n0_; clear n0_; (try clear hb); (try clear hb2); (try clear hk); (try clear hi)))
                  go_ret
                  exact ⟨by first | rfl | (simp [errW_none, errW_some] <;> rfl) | (simp [*, errW_none, errW_some] <;> rfl), by repeat (first | (with_reducible first | exact HB.out | apply below_alloc | apply pw_below_drewN | apply below_drew1) | exact HB.out | exact Below.refl _ _)⟩
              · rw [if_neg c17] at H
                have c17b0 : (t221 == t209) = false := beq_eq_false_iff_ne.mpr c17
                have c17b1 : (t221 != t209) = true := bne_iff_ne.mpr c17
                obtain rfl := Option.some.inj H
                go_wp2_with (first | ((with_reducible refine gate_callee (f := 33) rfl ?_); refine goesL_ (some 74) rfl rfl Try.func33 (by kernel_rfl) rfl #[.int .i64 t213, .int .i64 t214, .int .i64 t215] rfl (by (try simp only [List.map_toArray, List.map_cons, List.map_nil]); first | done | rfl | (simp only [List.length_drop, List.length_take]; rfl)) ?_; (with_reducible refine (impl_TripleParent.calls kj5 t213 t214 t215 t221 t222 t223 t224 true _ A15.out).mono ?_); rintro e w29 ⟨rfl, hb⟩; refine ⟨_, rfl, ?_⟩; have n0_ := Aside0.mk (below_step (by repeat (first | (with_reducible first | exact HB.out | apply below_alloc | apply pw_below_drewN | apply below_drew1) | exact HB.out | exact Below.refl _ _)) hb); try clear HB; have HB := n0_; clear n0_; (try clear hb); (try clear hb2); (try clear hk); (try clear hi)))
                go_ret
                exact ⟨by first | rfl | (simp [errW_none, errW_some] <;> rfl) | (simp [*, errW_none, errW_some] <;> rfl), by repeat (first | (with_reducible first | exact HB.out | apply below_alloc | apply pw_below_drewN | apply below_drew1) | exact HB.out | exact Below.refl _ _)⟩
            · replace c16 := Bool.eq_false_iff.mpr c16
              subst c16
              have H1 : (some false) = some r := by rw [if_neg (show ¬ (false = true) by decide)] at H; exact H
              clear H
              have H := H1
              clear H1
              obtain rfl := Option.some.inj H
              go_wp2_with (first | ((with_reducible refine gate_callee (f := 33) rfl ?_); refine goesL_ (some 74) rfl rfl Try.func33 (by kernel_rfl) rfl #[.int .i64 t213, .int .i64 t214, .int .i64 t215] rfl (by (try simp only [List.map_toArray, List.map_cons, List.map_nil]); first | done | rfl | (simp only [List.length_drop, List.length_take]; rfl)) ?_; (with_reducible refine (impl_TripleParent.calls kj5 t213 t214 t215 t221 t222 t223 t224 false _ A15.out).mono ?_); rintro e w30 ⟨rfl, hb⟩; refine ⟨_, rfl, ?_⟩; have n0_ := Aside0.mk (below_step (by repeat (first | (with_reducible first | exact HB.out | apply below_alloc | apply pw_below_drewN | apply below_drew1) | exact HB.out | exact Below.refl _ _)) hb); try clear HB; have HB := n0_; clear n0_; (try clear hb); (try clear hb2); (try clear hk); (try clear hi)))
              go_ret
              exact ⟨by first | rfl | (simp [errW_none, errW_some] <;> rfl) | (simp [*, errW_none, errW_some] <;> rfl), by repeat (first | (with_reducible first | exact HB.out | apply below_alloc | apply pw_below_drewN | apply below_drew1) | exact HB.out | exact Below.refl _ _)⟩
          · replace c14 := Bool.eq_false_iff.mpr c14
            subst c14
            have H1 : (some true) = some r := by rw [if_neg (show ¬ (false = true) by decide)] at H; exact H
            clear H
            have H := H1
            clear H1
            obtain rfl := Option.some.inj H
            go_wp2
            go_ret
            exact ⟨by first | rfl | (simp [errW_none, errW_some] <;> rfl) | (simp [*, errW_none, errW_some] <;> rfl), by repeat (first | (with_reducible first | exact HB.out | apply below_alloc | apply pw_below_drewN | apply below_drew1) | exact HB.out | exact Below.refl _ _)⟩

/-- THE ONE PURE STATEMENT of laws_FnChild: yours. -/
def laws_FnChild.Pure : Prop := ∀ (l0 : List Int), l0.length ≤ maxLen → l0.length * 1 ≤ 140737488351232 → (∀ x ∈ l0, (Lit.int .u8 x).wf = true) → ∃ k, laws_FnChild.f k l0 = some true
theorem laws_FnChild.walk (P : laws_FnChild.Pure) (a0 : Option Addr) (len0 cap0 : Nat) (z0 : List Int) (w : World) (w0 : (a0 = none ∧ len0 = 0 ∧ cap0 = 0 ∧ z0 = []) ∨ ∃ x, a0 = some x ∧ len0 ≤ cap0 ∧ cap0 ≤ maxLen ∧ z0.length = cap0 ∧ (∀ i, i < z0.length → w.cell? (x.add i) = some (.int .u8 (z0.getD i 0))) ∧ ∀ n ∈ z0, (Lit.int .u8 n).wf = true) (y0 : len0 * 1 ≤ 140737488351232) :
    Calls Try.prog 13 #[.slice a0 len0 cap0] w fun e w' => e = .returned (.bool true) ∧ Below w.heap.size w w' := by
  obtain ⟨l0, rfl, hr0, hm0, hw0, hc0⟩ := ReadsInt.ofRowC w0
  obtain ⟨k, h⟩ := P l0 hm0 y0 hw0
  refine (laws_FnChild.calls k _ _ l0 true w (Kd.C_of_reads (d := (0 : Int)) (h1 := fun _ => rfl) hr0) hc0 h).mono ?_
  rintro e w' ⟨rfl, hd⟩
  exact ⟨rfl, hd⟩

end Go.Proofs.Ytpmhninmblgjoaa.PFnChild
