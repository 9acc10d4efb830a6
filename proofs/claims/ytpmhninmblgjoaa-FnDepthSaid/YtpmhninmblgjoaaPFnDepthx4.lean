-- Written by a program of this session (wip/print2.py): the functions that the law reaches, plain, and the walks.
import Derived.Test.YtpmhninmblgjoaaPFnDepthx0
import Derived.Test.YtpmhninmblgjoaaPFnDepthx2
import Derived.Test.YtpmhninmblgjoaaPFnDepthx3
namespace Go.Proofs.Ytpmhninmblgjoaa.PFnDepth
open Go.RowKit Go.Proofs.YtpmhninmblgjoaaW.PrintWords Go.Proofs.YtpmhninmblgjoaaW.PrintLast Go.Proofs.YtpmhninmblgjoaaW.PrintMore
attribute [local go_sem] max2_int min2_int max_two min_two max_three min_three max_four min_four   -- for this text's walks alone
set_option linter.unusedVariables false
set_option linter.unusedSimpArgs false

/-! ### spec_l92Triple: function 52 -/
def spec_l92Triple.j0 : Nat → Int → Int → Int → Bool → List Int → Int → Option (Int × Int × Int × Int)
  | 0, _, _, _, _, _, _ => none
  | k + 1, x6, x7, x8, x30, x1000, x1001 => if x30 = true then (some (x6, x7, x8, x1001)) else ((some (([3, 4, 6, 5, (-3)] : List Int) : List Int)).bind fun y176 => ((spec_l6Rd_pick.f k x1000 x1001 5).bind fun bt179 => (if 0 ≤ bt179.1 then (if bt179.1 < (y176.length : Int) then ((some (([4, 3, 8, 12] : List Int) : List Int)).bind fun y182 => ((spec_l6Rd_pick.f k x1000 bt179.2 4).bind fun bt185 => (if 0 ≤ bt185.1 then (if bt185.1 < (y182.length : Int) then ((some (([5, 10, 13] : List Int) : List Int)).bind fun y188 => ((spec_l6Rd_pick.f k x1000 bt185.2 3).bind fun bt191 => (if 0 ≤ bt191.1 then (if bt191.1 < (y188.length : Int) then (some (rd y176 bt179.1, rd y182 bt185.1, rd y188 bt191.1, bt191.2)) else (none)) else (none)))) else (none)) else (none)))) else (none)) else (none))))
def spec_l92Triple.f (k : Nat) (s0_0 : List Int) (s0_1 : Int) : Option (Int × Int × Int × Int) := (spec_l6Rd_pick.f k s0_0 s0_1 12).bind fun bt166 => ((spec_l6Rd_pick.f k s0_0 bt166.2 (wrap64 ((wrap64 (2 + bt166.1)) - 1))).bind fun bt168 => ((spec_TripleMake.f k (wrap64 (2 + bt166.1)) (wrap64 (1 + bt168.1))).bind fun bt170 => (if bt170.2.2.2 = true then ((spec_l6Rd_pick.f k s0_0 bt168.2 12).bind fun bt174 => (spec_l92Triple.j0 k bt170.1 bt170.2.1 bt170.2.2.1 (decide (bt174.1 > 0)) s0_0 bt174.2)) else (spec_l92Triple.j0 k bt170.1 bt170.2.1 bt170.2.2.1 false s0_0 bt168.2))))
theorem spec_l92Triple.mono_l : ∀ k, (∀ y0 y1 y2 y3 y4 y5, LeO (spec_l92Triple.j0 k y0 y1 y2 y3 y4 y5) (spec_l92Triple.j0 (k + 1) y0 y1 y2 y3 y4 y5))
  | 0 => fun _ _ _ _ _ _ r h => by simp [spec_l92Triple.j0] at h
  | k + 1 => by
    have ih0 := spec_l92Triple.mono_l k
    · intro y0 y1 y2 y3 y4 y5
      unfold spec_l92Triple.j0
      repeat' first
      | (with_reducible exact ih0 _ _ _ _ _ _)
      | (with_reducible exact spec_TripleMake.mono _ _ _)
      | (with_reducible exact spec_l6Rd_pick.mono _ _ _ _)
      | (with_reducible exact LeO.refl _)
      | (with_reducible exact LeO.none _)
      | (with_reducible refine LeO.ite ?_ ?_)
      | (with_reducible refine LeO.bind ?_ (fun _ => ?_))
      | exact ih0 _ _ _ _ _ _
      | exact spec_TripleMake.mono _ _ _
      | exact spec_l6Rd_pick.mono _ _ _ _
      | exact LeO.none _
      | refine LeO.ite ?_ ?_
      | refine LeO.bind ?_ (fun _ => ?_)
theorem spec_l92Triple.mono : ∀ a0 a1 k, LeO (spec_l92Triple.f k a0 a1) (spec_l92Triple.f (k + 1) a0 a1) := by
  intro a0 a1 k
  have ih0 := spec_l92Triple.mono_l k
  unfold spec_l92Triple.f
  repeat' first
      | (with_reducible exact ih0 _ _ _ _ _ _)
      | (with_reducible exact spec_TripleMake.mono _ _ _)
      | (with_reducible exact spec_l6Rd_pick.mono _ _ _ _)
      | (with_reducible exact LeO.refl _)
      | (with_reducible exact LeO.none _)
      | (with_reducible refine LeO.ite ?_ ?_)
      | (with_reducible refine LeO.bind ?_ (fun _ => ?_))
      | exact ih0 _ _ _ _ _ _
      | exact spec_TripleMake.mono _ _ _
      | exact spec_l6Rd_pick.mono _ _ _ _
      | exact LeO.none _
      | refine LeO.ite ?_ ?_
      | refine LeO.bind ?_ (fun _ => ?_)
def spec_l92Triple.T5 : Bool × List (List Nat × List Nat) := (true, [([], []), ([], []), ([1], [1]), ([0, 2], [0, 2]), ([3], [3]), ([], []), ([], []), ([6, 2], [6]), ([5, 7], [5, 7]), ([8], [8]), ([], []), ([], []), ([11, 7], [11]), ([10, 12], [10, 12]), ([13], [13]), ([4, 12, 0, 1, 2, 3, 4], [4]), ([9, 15, 0, 1, 2, 3, 4, 5, 6, 7, 8, 9, 15], [9]), ([14, 16, 0, 1, 2, 3, 4, 5, 6, 7, 8, 9, 10, 11, 12, 13, 14, 15, 16], [14])])
def spec_l92Triple.B5 : List Nat := [0, 0, 2, 7, 15, 0, 0, 70, 230, 486, 0, 0, 2246, 7366, 15558, 6367, 39935, 131071]
theorem spec_l92Triple.tab5 : rtab .any (opsOf Try.f52 5) = spec_l92Triple.T5 := by kernel_rfl
theorem spec_l92Triple.bits5 : waitsOk spec_l92Triple.T5.2 spec_l92Triple.B5 = true := by kernel_rfl
set_option maxHeartbeats 8000000 in
set_option maxRecDepth 100000 in
theorem spec_l92Triple.calls (k : Nat) (g : Nat) (s0_0 : List Int) (s0_1 : Int) (r1 : Int) (r2 : Int) (r3 : Int) (r4 : Int) (w0 w : World) (hI : IsS64 w0 w g s0_0 s0_1) (hB : Below w0.heap.size w0 w) (h : spec_l92Triple.f k s0_0 s0_1 = some (r1, r2, r3, r4)) :
    Calls Try.prog 52 #[.pointer (some ⟨g, 0, none⟩)] w fun e w' => e = .returned (.tuple #[.int .i64 r1, .int .i64 r2, .int .i64 r3]) ∧ IsS64 w0 w' g s0_0 r4 ∧ Below w0.heap.size w0 w' ∧ KeepBut w w' g none := by
  have HI0 := Aside0.mk hI
  have HK := Aside0.mk (KeepBut.refl w g none)
  have HL := Aside0.mk hB.size
  clear hI
  have HW0 := Aside0.mk hB.size
  have HB := Aside0.mk hB
  clear hB
  have H : ((spec_l6Rd_pick.f k s0_0 s0_1 12).bind fun bt166 => ((spec_l6Rd_pick.f k s0_0 bt166.2 (wrap64 ((wrap64 (2 + bt166.1)) - 1))).bind fun bt168 => ((spec_TripleMake.f k (wrap64 (2 + bt166.1)) (wrap64 (1 + bt168.1))).bind fun bt170 => (if bt170.2.2.2 = true then ((spec_l6Rd_pick.f k s0_0 bt168.2 12).bind fun bt174 => (spec_l92Triple.j0 k bt170.1 bt170.2.1 bt170.2.2.1 (decide (bt174.1 > 0)) s0_0 bt174.2)) else (spec_l92Triple.j0 k bt170.1 bt170.2.1 bt170.2.2.1 false s0_0 bt168.2))))) = some (r1, r2, r3, r4) := h
  clear h
  replace H := Option.bind_eq_some_iff.mp H
  obtain ⟨⟨t166, t167⟩, A20, H⟩ := H
  replace H : ((spec_l6Rd_pick.f k s0_0 t167 (wrap64 ((wrap64 (2 + t166)) - 1))).bind fun bt168 => ((spec_TripleMake.f k (wrap64 (2 + t166)) (wrap64 (1 + bt168.1))).bind fun bt170 => (if bt170.2.2.2 = true then ((spec_l6Rd_pick.f k s0_0 bt168.2 12).bind fun bt174 => (spec_l92Triple.j0 k bt170.1 bt170.2.1 bt170.2.2.1 (decide (bt174.1 > 0)) s0_0 bt174.2)) else (spec_l92Triple.j0 k bt170.1 bt170.2.1 bt170.2.2.1 false s0_0 bt168.2)))) = some (r1, r2, r3, r4) := H
  have A2 := Aside0.mk A20
  clear A20
  replace H := Option.bind_eq_some_iff.mp H
  obtain ⟨⟨t168, t169⟩, A30, H⟩ := H
  replace H : ((spec_TripleMake.f k (wrap64 (2 + t166)) (wrap64 (1 + t168))).bind fun bt170 => (if bt170.2.2.2 = true then ((spec_l6Rd_pick.f k s0_0 t169 12).bind fun bt174 => (spec_l92Triple.j0 k bt170.1 bt170.2.1 bt170.2.2.1 (decide (bt174.1 > 0)) s0_0 bt174.2)) else (spec_l92Triple.j0 k bt170.1 bt170.2.1 bt170.2.2.1 false s0_0 t169))) = some (r1, r2, r3, r4) := H
  have A3 := Aside0.mk A30
  clear A30
  replace H := Option.bind_eq_some_iff.mp H
  obtain ⟨⟨t170, t171, t172, t173⟩, A40, H⟩ := H
  replace H : (if t173 = true then ((spec_l6Rd_pick.f k s0_0 t169 12).bind fun bt174 => (spec_l92Triple.j0 k t170 t171 t172 (decide (bt174.1 > 0)) s0_0 bt174.2)) else (spec_l92Triple.j0 k t170 t171 t172 false s0_0 t169)) = some (r1, r2, r3, r4) := H
  have A4 := Aside0.mk A40
  clear A40
  have HC5 := Aside0.mk H
  clear H
  go_enter Try.func52, Try.ntmps52
  go_upto_region 3 with (first | ((with_reducible refine gate_callee (f := 49) rfl ?_); refine goesL_ (some 11) rfl rfl Try.func49 (by kernel_rfl) rfl #[.pointer (some ⟨g, 0, none⟩), .int .i64 12] rfl (by (try simp only [List.map_toArray, List.map_cons, List.map_nil]); first | done | rfl | (simp only [List.length_drop, List.length_take]; rfl)) ?_; (with_reducible refine (spec_l6Rd_pick.calls k g s0_0 s0_1 12 t166 t167 w0 _ ?side1 ?side2 A2.out).mono ?_); (case side1 => repeat (first | (with_reducible first | exact HI0.out | apply IsS64.alloc | apply IsS64.drewN | apply IsS64.drew | apply IsS64.set_1) | exact HI0.out)); (case side2 => repeat (first | (with_reducible first | exact HB.out | apply below_alloc | apply pw_below_drewN | apply below_drew1 | refine below_set ?_ (IsS64.ge HI0.out)) | exact HB.out)); rintro e w6 ⟨rfl, hi, hb, hk⟩; refine ⟨_, rfl, ?_⟩; have n0_ := Aside0.mk (KeepBut.trans (by repeat (first | (with_reducible first | exact HK.out | apply KeepBut.set_ | apply keep_drewN | apply keep_drew | apply keep_alloc) | exact HK.out)) hk (.inl rfl)); have n1_ := Aside0.mk (hb); have n2_ := Aside0.mk (hi); clear HK; try clear HB; clear HI0; have HK := n0_; have HB := n1_; have HI0 := n2_; clear n0_ n1_ n2_; (try clear hb); (try clear hb2); (try clear hk); (try clear hi)) | ((with_reducible refine gate_callee (f := 49) rfl ?_); refine goesL_ (some 18) rfl rfl Try.func49 (by kernel_rfl) rfl #[.pointer (some ⟨g, 0, none⟩), .int .i64 (wrap64 ((wrap64 (2 + t166)) - 1))] rfl (by (try simp only [List.map_toArray, List.map_cons, List.map_nil]); first | done | rfl | (simp only [List.length_drop, List.length_take]; rfl)) ?_; (with_reducible refine (spec_l6Rd_pick.calls k g s0_0 t167 (wrap64 ((wrap64 (2 + t166)) - 1)) t168 t169 w0 _ ?side1 ?side2 A3.out).mono ?_); (case side1 => repeat (first | (with_reducible first | exact HI0.out | apply IsS64.alloc | apply IsS64.drewN | apply IsS64.drew | apply IsS64.set_1) | exact HI0.out)); (case side2 => repeat (first | (with_reducible first | exact HB.out | apply below_alloc | apply pw_below_drewN | apply below_drew1 | refine below_set ?_ (IsS64.ge HI0.out)) | exact HB.out)); rintro e w7 ⟨rfl, hi, hb, hk⟩; refine ⟨_, rfl, ?_⟩; have n0_ := Aside0.mk (KeepBut.trans (by repeat (first | (with_reducible first | exact HK.out | apply KeepBut.set_ | apply keep_drewN | apply keep_drew | apply keep_alloc) | exact HK.out)) hk (.inl rfl)); have n1_ := Aside0.mk (hb); have n2_ := Aside0.mk (hi); clear HK; try clear HB; clear HI0; have HK := n0_; have HB := n1_; have HI0 := n2_; clear n0_ n1_ n2_; (try clear hb); (try clear hb2); (try clear hk); (try clear hi)) | ((with_reducible refine gate_callee (f := 15) rfl ?_); refine goesL_ (some 20) rfl rfl Try.func15 (by kernel_rfl) rfl #[.int .i64 (wrap64 (2 + t166)), .int .i64 (wrap64 (1 + t168))] rfl (by (try simp only [List.map_toArray, List.map_cons, List.map_nil]); first | done | rfl | (simp only [List.length_drop, List.length_take]; rfl)) ?_; (with_reducible refine (spec_TripleMake.calls k (wrap64 (2 + t166)) (wrap64 (1 + t168)) t170 t171 t172 t173 _ A4.out).mono ?_); rintro e w8 ⟨rfl, hb⟩; refine ⟨_, rfl, ?_⟩; have n0_ := Aside0.mk (IsS64.below (by repeat (first | (with_reducible first | exact HI0.out | apply IsS64.alloc | apply IsS64.drewN | apply IsS64.drew | apply IsS64.set_1) | exact HI0.out)) hb); have n1_ := Aside0.mk (KeepBut.trans (by repeat (first | (with_reducible first | exact HK.out | apply KeepBut.set_ | apply keep_drewN | apply keep_drew | apply keep_alloc) | exact HK.out)) (KeepBut.of_below hb g none) (.inl rfl)); have n2_ := Aside0.mk (below_step (by repeat (first | (with_reducible first | exact HB.out | apply below_alloc | apply pw_below_drewN | apply below_drew1 | refine below_set ?_ (IsS64.ge HI0.out)) | exact HB.out)) hb); clear HI0; clear HK; try clear HB; have HI0 := n0_; have HK := n1_; have HB := n2_; clear n0_ n1_ n2_; (try clear hb); (try clear hb2); (try clear hk); (try clear hi)))
  (try simp only [Act.put, List.setIfInBounds_toArray, List.set_cons_zero, List.set_cons_succ])
  go_cut [30] (fun v30 wc => ∃ (kq : Nat) (x30_4 : Bool) (x1001_4 : Int), v30 = .bool x30_4 ∧ Aside0 (spec_l92Triple.j0 kq t170 t171 t172 x30_4 s0_0 x1001_4 = some (r1, r2, r3, r4)) ∧ Aside0 (kq ≤ k) ∧ Aside0 (IsS64 w0 wc g s0_0 x1001_4) ∧ Aside0 (KeepBut w wc g none) ∧ Aside0 (Below w0.heap.size w0 wc))
  case first =>
    have H := HC5.out
    clear HC5
    by_cases c9 : t173 = true
    · subst c9
      have H1 : ((spec_l6Rd_pick.f k s0_0 t169 12).bind fun bt174 => (spec_l92Triple.j0 k t170 t171 t172 (decide (bt174.1 > 0)) s0_0 bt174.2)) = some (r1, r2, r3, r4) := by rw [if_pos rfl] at H; exact H
      clear H
      have H := H1
      clear H1
      replace H := Option.bind_eq_some_iff.mp H
      obtain ⟨⟨t174, t175⟩, A100, H⟩ := H
      replace H : (spec_l92Triple.j0 k t170 t171 t172 (decide (t174 > 0)) s0_0 t175) = some (r1, r2, r3, r4) := H
      have A10 := Aside0.mk A100
      clear A100
      have H' := Aside0.mk H
      clear H
      go_wp2_with (first | (go_at_call 49; (with_reducible refine (spec_l6Rd_pick.calls k g s0_0 t169 12 t174 t175 w0 _ ?side1 ?side2 A10.out).mono ?_); (case side1 => repeat (first | (with_reducible first | exact HI0.out | apply IsS64.alloc | apply IsS64.drewN | apply IsS64.drew | apply IsS64.set_1) | exact HI0.out)); (case side2 => repeat (first | (with_reducible first | exact HB.out | apply below_alloc | apply pw_below_drewN | apply below_drew1 | refine below_set ?_ (IsS64.ge HI0.out)) | exact HB.out)); rintro e w11 ⟨rfl, hi, hb, hk⟩; have n0_ := Aside0.mk (KeepBut.trans (by repeat (first | (with_reducible first | exact HK.out | apply KeepBut.set_ | apply keep_drewN | apply keep_drew | apply keep_alloc) | exact HK.out)) hk (.inl rfl)); have n1_ := Aside0.mk (hb); have n2_ := Aside0.mk (hi); clear HK; try clear HB; clear HI0; have HK := n0_; have HB := n1_; have HI0 := n2_; clear n0_ n1_ n2_; (try clear hb); (try clear hb2); (try clear hk); (try clear hi)))
      go_meet
      case rel => exact ⟨_, (decide (t174 > 0)), (t175), (by first | rfl | (simp; done) | (simp [*]; done)), H', ⟨by first | omega | exact Nat.le_refl _⟩, ⟨by repeat (first | (with_reducible first | exact HI0.out | apply IsS64.alloc | apply IsS64.drewN | apply IsS64.drew | apply IsS64.set_1) | exact HI0.out)⟩, ⟨by repeat (first | (with_reducible first | exact HK.out | apply KeepBut.set_ | apply keep_drewN | apply keep_drew | apply keep_alloc) | exact HK.out)⟩, ⟨by repeat (first | (with_reducible first | exact HB.out | apply below_alloc | apply pw_below_drewN | apply below_drew1 | refine below_set ?_ (IsS64.ge HI0.out)) | exact HB.out)⟩⟩
    replace c9 := Bool.eq_false_iff.mpr c9
    subst c9
    have H1 : (spec_l92Triple.j0 k t170 t171 t172 false s0_0 t169) = some (r1, r2, r3, r4) := by rw [if_neg (show ¬ (false = true) by decide)] at H; exact H
    clear H
    have H := H1
    clear H1
    have H' := Aside0.mk H
    clear H
    go_wp2
    go_meet
    case rel => exact ⟨_, (false), (t169), (by first | rfl | (simp; done) | (simp [*]; done)), H', ⟨by first | omega | exact Nat.le_refl _⟩, ⟨by repeat (first | (with_reducible first | exact HI0.out | apply IsS64.alloc | apply IsS64.drewN | apply IsS64.drew | apply IsS64.set_1) | exact HI0.out)⟩, ⟨by repeat (first | (with_reducible first | exact HK.out | apply KeepBut.set_ | apply keep_drewN | apply keep_drew | apply keep_alloc) | exact HK.out)⟩, ⟨by repeat (first | (with_reducible first | exact HB.out | apply below_alloc | apply pw_below_drewN | apply below_drew1 | refine below_set ?_ (IsS64.ge HI0.out)) | exact HB.out)⟩⟩
  case rest =>
    clear HC5
    try clear c1
    try clear p2
    try clear c4
    try clear c5
    try clear p6
    try clear c9
    obtain ⟨kq, x30_4, x1001_4, rfl, HA, HJ4, HI0, HK, HB⟩ := hcut
    cases kq with
    | zero => exact absurd HA.out (by simp [spec_l92Triple.j0])
    | succ kj4 =>
      have H := HA.out
      clear HA
      simp only [spec_l92Triple.j0] at H
      by_cases c12 : x30_4 = true
      · subst c12
        have H1 : (some (t170, t171, t172, x1001_4)) = some (r1, r2, r3, r4) := by rw [if_pos rfl] at H; exact H
        clear H
        have H := H1
        clear H1
        simp only [Option.some.injEq, Prod.mk.injEq] at H
        obtain ⟨rfl, rfl, rfl, rfl⟩ := H
        go_wp2
        go_ret3
        exact ⟨by first | rfl | (simp [errW_none, errW_some] <;> rfl) | (simp [*, errW_none, errW_some] <;> rfl), by repeat (first | (with_reducible first | exact HI0.out | apply IsS64.alloc | apply IsS64.drewN | apply IsS64.drew | apply IsS64.set_1) | exact HI0.out), by repeat (first | (with_reducible first | exact HB.out | apply below_alloc | apply pw_below_drewN | apply below_drew1 | refine below_set ?_ (IsS64.ge HI0.out)) | exact HB.out), by repeat (first | (with_reducible first | exact HK.out | apply KeepBut.set_ | apply keep_drewN | apply keep_drew | apply keep_alloc) | exact HK.out)⟩
      replace c12 := Bool.eq_false_iff.mpr c12
      subst c12
      have H1 : ((some (([3, 4, 6, 5, (-3)] : List Int) : List Int)).bind fun y176 => ((spec_l6Rd_pick.f kj4 s0_0 x1001_4 5).bind fun bt179 => (if 0 ≤ bt179.1 then (if bt179.1 < (y176.length : Int) then ((some (([4, 3, 8, 12] : List Int) : List Int)).bind fun y182 => ((spec_l6Rd_pick.f kj4 s0_0 bt179.2 4).bind fun bt185 => (if 0 ≤ bt185.1 then (if bt185.1 < (y182.length : Int) then ((some (([5, 10, 13] : List Int) : List Int)).bind fun y188 => ((spec_l6Rd_pick.f kj4 s0_0 bt185.2 3).bind fun bt191 => (if 0 ≤ bt191.1 then (if bt191.1 < (y188.length : Int) then (some (rd y176 bt179.1, rd y182 bt185.1, rd y188 bt191.1, bt191.2)) else (none)) else (none)))) else (none)) else (none)))) else (none)) else (none)))) = some (r1, r2, r3, r4) := by rw [if_neg (show ¬ (false = true) by decide)] at H; exact H
      clear H
      have H := H1
      clear H1
      obtain ⟨y176, hy176⟩ : ∃ y_ : List Int, y_ = (([3, 4, 6, 5, (-3)] : List Int)) := ⟨_, rfl⟩
      replace H : ((spec_l6Rd_pick.f kj4 s0_0 x1001_4 5).bind fun bt179 => (if 0 ≤ bt179.1 then (if bt179.1 < (y176.length : Int) then ((some (([4, 3, 8, 12] : List Int) : List Int)).bind fun y182 => ((spec_l6Rd_pick.f kj4 s0_0 bt179.2 4).bind fun bt185 => (if 0 ≤ bt185.1 then (if bt185.1 < (y182.length : Int) then ((some (([5, 10, 13] : List Int) : List Int)).bind fun y188 => ((spec_l6Rd_pick.f kj4 s0_0 bt185.2 3).bind fun bt191 => (if 0 ≤ bt191.1 then (if bt191.1 < (y188.length : Int) then (some (rd y176 bt179.1, rd y182 bt185.1, rd y188 bt191.1, bt191.2)) else (none)) else (none)))) else (none)) else (none)))) else (none)) else (none))) = some (r1, r2, r3, r4) := by first | (rw [hy176]; with_reducible exact H) | (have H2_ := (Option.bind_some _ _).symm.trans H; rw [hy176]; with_reducible exact H2_) | (have H2_ := (Option.bind_some _ _).symm.trans H; with_reducible exact H2_) | with_reducible exact H | (rw [hy176]; exact H) | exact H
      have Ny176 := Aside0.mk hy176
      clear hy176
      replace H := Option.bind_eq_some_iff.mp H
      obtain ⟨⟨t179, t180⟩, A130, H⟩ := H
      replace H : (if 0 ≤ t179 then (if t179 < (y176.length : Int) then ((some (([4, 3, 8, 12] : List Int) : List Int)).bind fun y182 => ((spec_l6Rd_pick.f kj4 s0_0 t180 4).bind fun bt185 => (if 0 ≤ bt185.1 then (if bt185.1 < (y182.length : Int) then ((some (([5, 10, 13] : List Int) : List Int)).bind fun y188 => ((spec_l6Rd_pick.f kj4 s0_0 bt185.2 3).bind fun bt191 => (if 0 ≤ bt191.1 then (if bt191.1 < (y188.length : Int) then (some (rd y176 t179, rd y182 bt185.1, rd y188 bt191.1, bt191.2)) else (none)) else (none)))) else (none)) else (none)))) else (none)) else (none)) = some (r1, r2, r3, r4) := H
      have A13 := Aside0.mk A130
      clear A130
      by_cases c14 : 0 ≤ t179
      · rw [if_pos c14] at H
        have c14b0 : decide (0 ≤ t179) = true := decide_eq_true c14
        clear c14
        by_cases c15 : t179 < (y176.length : Int)
        · rw [if_pos c15] at H
          have c15b0 : decide (t179 < (y176.length : Int)) = true := decide_eq_true c15
          clear c15
          obtain ⟨y182, hy182⟩ : ∃ y_ : List Int, y_ = (([4, 3, 8, 12] : List Int)) := ⟨_, rfl⟩
          replace H : ((spec_l6Rd_pick.f kj4 s0_0 t180 4).bind fun bt185 => (if 0 ≤ bt185.1 then (if bt185.1 < (y182.length : Int) then ((some (([5, 10, 13] : List Int) : List Int)).bind fun y188 => ((spec_l6Rd_pick.f kj4 s0_0 bt185.2 3).bind fun bt191 => (if 0 ≤ bt191.1 then (if bt191.1 < (y188.length : Int) then (some (rd y176 t179, rd y182 bt185.1, rd y188 bt191.1, bt191.2)) else (none)) else (none)))) else (none)) else (none))) = some (r1, r2, r3, r4) := by first | (rw [hy182]; with_reducible exact H) | (have H2_ := (Option.bind_some _ _).symm.trans H; rw [hy182]; with_reducible exact H2_) | (have H2_ := (Option.bind_some _ _).symm.trans H; with_reducible exact H2_) | with_reducible exact H | (rw [hy182]; exact H) | exact H
          have Ny182 := Aside0.mk hy182
          clear hy182
          replace H := Option.bind_eq_some_iff.mp H
          obtain ⟨⟨t185, t186⟩, A160, H⟩ := H
          replace H : (if 0 ≤ t185 then (if t185 < (y182.length : Int) then ((some (([5, 10, 13] : List Int) : List Int)).bind fun y188 => ((spec_l6Rd_pick.f kj4 s0_0 t186 3).bind fun bt191 => (if 0 ≤ bt191.1 then (if bt191.1 < (y188.length : Int) then (some (rd y176 t179, rd y182 t185, rd y188 bt191.1, bt191.2)) else (none)) else (none)))) else (none)) else (none)) = some (r1, r2, r3, r4) := H
          have A16 := Aside0.mk A160
          clear A160
          by_cases c17 : 0 ≤ t185
          · rw [if_pos c17] at H
            have c17b0 : decide (0 ≤ t185) = true := decide_eq_true c17
            clear c17
            by_cases c18 : t185 < (y182.length : Int)
            · rw [if_pos c18] at H
              have c18b0 : decide (t185 < (y182.length : Int)) = true := decide_eq_true c18
              clear c18
              obtain ⟨y188, hy188⟩ : ∃ y_ : List Int, y_ = (([5, 10, 13] : List Int)) := ⟨_, rfl⟩
              replace H : ((spec_l6Rd_pick.f kj4 s0_0 t186 3).bind fun bt191 => (if 0 ≤ bt191.1 then (if bt191.1 < (y188.length : Int) then (some (rd y176 t179, rd y182 t185, rd y188 bt191.1, bt191.2)) else (none)) else (none))) = some (r1, r2, r3, r4) := by first | (rw [hy188]; with_reducible exact H) | (have H2_ := (Option.bind_some _ _).symm.trans H; rw [hy188]; with_reducible exact H2_) | (have H2_ := (Option.bind_some _ _).symm.trans H; with_reducible exact H2_) | with_reducible exact H | (rw [hy188]; exact H) | exact H
              have Ny188 := Aside0.mk hy188
              clear hy188
              replace H := Option.bind_eq_some_iff.mp H
              obtain ⟨⟨t191, t192⟩, A190, H⟩ := H
              replace H : (if 0 ≤ t191 then (if t191 < (y188.length : Int) then (some (rd y176 t179, rd y182 t185, rd y188 t191, t192)) else (none)) else (none)) = some (r1, r2, r3, r4) := H
              have A19 := Aside0.mk A190
              clear A190
              by_cases c20 : 0 ≤ t191
              · rw [if_pos c20] at H
                have c20b0 : decide (0 ≤ t191) = true := decide_eq_true c20
                clear c20
                by_cases c21 : t191 < (y188.length : Int)
                · rw [if_pos c21] at H
                  have c21b0 : decide (t191 < (y188.length : Int)) = true := decide_eq_true c21
                  clear c21
                  simp only [Option.some.injEq, Prod.mk.injEq] at H
                  obtain ⟨rfl, rfl, rfl, rfl⟩ := H
                  try go_wp2
                  have pi181 : (0 ≤ (t179 : Int)) = True := eq_true (of_decide_eq_true (by first | (with_reducible assumption) | assumption))
                  have qi181 : (t179 < (y176.length : Int)) = True := eq_true (of_decide_eq_true (by first | (with_reducible assumption) | assumption))
                  have pi187 : (0 ≤ (t185 : Int)) = True := eq_true (of_decide_eq_true (by first | (with_reducible assumption) | assumption))
                  have qi187 : (t185 < (y182.length : Int)) = True := eq_true (of_decide_eq_true (by first | (with_reducible assumption) | assumption))
                  have pi193 : (0 ≤ (t191 : Int)) = True := eq_true (of_decide_eq_true (by first | (with_reducible assumption) | assumption))
                  have qi193 : (t191 < (y188.length : Int)) = True := eq_true (of_decide_eq_true (by first | (with_reducible assumption) | assumption))
                  have n0_ := Aside0.mk (IsS64.drew HI0.out)
                  have n1_ := Aside0.mk (keep_drew HK.out)
                  have n2_ := Aside0.mk (below_drew1 HB.out)
                  clear HI0
                  clear HK
                  try clear HB
                  have HI0 := n0_
                  have HK := n1_
                  have HB := n2_
                  clear n0_ n1_ n2_
                  refine start_ (n := 18) (S := fun w' => True) (ds := []) #[false, false, false, false, false, false, false, false, false, false, false, false, false, false, false, false, false, false] (by kernel_rfl) rfl rfl trivial (fun hHeld => ?_); refine with_tabW spec_l92Triple.tab5 spec_l92Triple.bits5 (fun HT_ HW_ => ?_)
                  generalize wc.drew = w22 at HI0 HK HB hHeld ⊢
                  refine pure_ (i := 1) (N := some 35) (v := ?_) (a' := ?_) #[false, true, false, false, false, false, false, false, false, false, false, false, false, false, false, false, false, false] rfl rfl (any_of HT_.out (by kernel_rfl)) (fun _ _ _ h => h) (Or.inl ⟨by rfl, ?_⟩) ?_ ?_
                  rotate_left
                  · intro w'
                    go_simp
                    with_reducible rfl
                  rotate_left
                  · simp only [Act.put, List.setIfInBounds_toArray, List.set_cons_zero, List.set_cons_succ, i64_w, i32_w]
                    rfl
                  refine pure_ (i := 6) (N := some 40) (v := ?_) (a' := ?_) #[false, true, false, false, false, false, true, false, false, false, false, false, false, false, false, false, false, false] rfl rfl (any_of HT_.out (by kernel_rfl)) (fun _ _ _ h => h) (Or.inl ⟨by rfl, ?_⟩) ?_ ?_
                  rotate_left
                  · intro w'
                    go_simp
                    with_reducible rfl
                  rotate_left
                  · simp only [Act.put, List.setIfInBounds_toArray, List.set_cons_zero, List.set_cons_succ, i64_w, i32_w]
                    rfl
                  refine pure_ (i := 11) (N := some 45) (v := ?_) (a' := ?_) #[false, true, false, false, false, false, true, false, false, false, false, true, false, false, false, false, false, false] rfl rfl (any_of HT_.out (by kernel_rfl)) (fun _ _ _ h => h) (Or.inl ⟨by rfl, ?_⟩) ?_ ?_
                  rotate_left
                  · intro w'
                    go_simp
                    with_reducible rfl
                  rotate_left
                  · simp only [Act.put, List.setIfInBounds_toArray, List.set_cons_zero, List.set_cons_succ, i64_w, i32_w]
                    rfl
                  refine inv_at [0, 2, 3, 4, 5, 7, 8, 9, 10, 12, 13, 14, 15, 16, 17] (fun a0_ b a w' => ∃ (v177 : Value) (adz_v177 : Addr) (v183 : Value) (adz_v183 : Addr) (v189 : Value) (adz_v189 : Addr) (m3_ : Value) (m8_ : Value) (m13_ : Value), a = putSel a0_ b [(0, 34, v177), (2, 36, .int .i64 t179), (3, 37, m3_), (4, 38, .int .i64 (rd y176 t179)), (5, 39, v183), (7, 41, .int .i64 t185), (8, 42, m8_), (9, 43, .int .i64 (rd y182 t185)), (10, 44, v189), (12, 46, .int .i64 t191), (13, 47, m13_), (14, 48, .int .i64 (rd y188 t191)), (15, 2, .int .i64 (rd y176 t179)), (16, 3, .int .i64 (rd y182 t185)), (17, 4, .int .i64 (rd y188 t191))] ∧ (b 2 = false → IsS64 w0 w' g s0_0 x1001_4) ∧ (KeepBut w w' g none) ∧ (Below w0.heap.size w0 w') ∧ (b 0 = true → Kd.R (Kd.int .i64) 3 w' w.heap.size (fun _ => True) v177 y176) ∧ (b 0 = true → ∃ c_, (v177 : Value) = .slice (some adz_v177) y176.length c_) ∧ (b 2 = true → b 7 = false → IsS64 w0 w' g s0_0 t180) ∧ (b 5 = true → Kd.R (Kd.int .i64) 3 w' w.heap.size (fun _ => True) v183 y182) ∧ (b 5 = true → ∃ c_, (v183 : Value) = .slice (some adz_v183) y182.length c_) ∧ (b 7 = true → b 12 = false → IsS64 w0 w' g s0_0 t186) ∧ (b 10 = true → Kd.R (Kd.int .i64) 3 w' w.heap.size (fun _ => True) v189 y188) ∧ (b 10 = true → ∃ c_, (v189 : Value) = .slice (some adz_v189) y188.length c_) ∧ (b 12 = true → IsS64 w0 w' g s0_0 t192) ∧ (b 3 = true → (m3_ : Value) = .pointer (some (adz_v177.add (t179).toNat))) ∧ (b 8 = true → (m8_ : Value) = .pointer (some (adz_v183.add (t185).toNat))) ∧ (b 13 = true → (m13_ : Value) = .pointer (some (adz_v189.add (t191).toNat)))) HT_.out HW_.out (by kernel_rfl) (by kernel_rfl) ?_ ?_ ?_
                  · exact ⟨.bool false, ⟨0, 0, none⟩, .bool false, ⟨0, 0, none⟩, .bool false, ⟨0, 0, none⟩, .bool false, .bool false, .bool false, by simp only [putSel, Bool.false_eq_true, if_false], fun _ => HI0.out, HK.out, HB.out, fun h_ => absurd h_ (by decide), fun h_ => absurd h_ (by decide), fun h_ => absurd h_ (by decide), fun h_ => absurd h_ (by decide), fun h_ => absurd h_ (by decide), fun h_ => absurd h_ (by decide), fun h_ => absurd h_ (by decide), fun h_ => absurd h_ (by decide), fun h_ => absurd h_ (by decide), fun h_ => absurd h_ (by decide), fun h_ => absurd h_ (by decide), fun h_ => absurd h_ (by decide)⟩
                  · skip
                    clear HB HI0 HK
                    refine steps_cons ?_ ?_
                    · rintro b a w' ⟨v177, adz_v177, v183, adz_v183, v189, adz_v189, m3_, m8_, m13_, ha, Q_HI0, Q_HK, Q_HB, Q_HO178, Q_HA_HO178, Q_HI0_e2, Q_HO184, Q_HA_HO184, Q_HI0_e7, Q_HO190, Q_HA_HO190, Q_HI0_e12, Q_X3_, Q_X8_, Q_X13_⟩ hb_ hon hoff
                      refine ⟨_, rfl, fun K hK => ?_⟩
                      replace ha := Aside0.mk ha
                      have HK := Aside0.mk Q_HK
                      have HB := Aside0.mk Q_HB
                      refine Kd.R_lit_step (Kd.int .i64) _ 3 ?hg (N := 34) ?hd (xs := ([3, 4, 6, 5, (-3)] : List Int)) (inner := [.int .i64 3, .int .i64 4, .int .i64 6, .int .i64 5, .int .i64 (-3)]) (ok := fun _ => True) (okp := fun _ => True) ?hr ?hp (fun _ hk => hk) trivial (Below.refl _ _) (Nat.le_refl _) (by simp) ?_; (case hd => rfl); (case hg => rfl); (case hr => first | (go_simp; done) | (go_simp; rfl)); (case hp => exact (Reps.one (show Kd.M (Kd.int .i64) _ _ _ 3 [.int .i64 3] from rfl) (Reps.one (show Kd.M (Kd.int .i64) _ _ _ 4 [.int .i64 4] from rfl) (Reps.one (show Kd.M (Kd.int .i64) _ _ _ 6 [.int .i64 6] from rfl) (Reps.one (show Kd.M (Kd.int .i64) _ _ _ 5 [.int .i64 5] from rfl) (Reps.one (show Kd.M (Kd.int .i64) _ _ _ (-3) [.int .i64 (-3)] from rfl) (Reps.none _ _)))))))
                      intro v177 w23 ho24 hb hg_ hnew_
                      clear hg_ hnew_
                      (first | rw [← Ny176.out] at ho24 | (simp only [Int.reduceToNat] at ho24; rw [← Ny176.out] at ho24))
                      have n0_ := Aside0.mk (Kd.R_lower ho24 (keep_size (w := w) (g := g) (row := none) (by repeat (first | (with_reducible first | exact HK.out | apply KeepBut.set_ | apply keep_drewN | apply keep_drew | apply keep_alloc) | exact HK.out))))
                      have n2_ := Aside0.mk (KeepBut.trans (by repeat (first | (with_reducible first | exact HK.out | apply KeepBut.set_ | apply keep_drewN | apply keep_drew | apply keep_alloc) | exact HK.out)) (KeepBut.of_below hb g none) (.inl rfl))
                      have n3_ := Aside0.mk (below_step (by repeat (first | (with_reducible first | exact HB.out | apply below_alloc | apply pw_below_drewN | apply below_drew1) | exact HB.out | exact Below.refl _ _)) hb)
                      have z_HI0 := fun (h0_ : b 2 = false) => (show IsS64 w0 w23 g s0_0 x1001_4 from by first | exact (IsS64.below (by repeat (first | (with_reducible first | exact (Q_HI0 h0_) | apply IsS64.alloc | apply IsS64.drewN | apply IsS64.drew | apply IsS64.set_1) | exact (Q_HI0 h0_))) hb))
                      have z_HI0_e2 := fun (h0_ : b 2 = true) (h1_ : b 7 = false) => (show IsS64 w0 w23 g s0_0 t180 from by first | exact (IsS64.below (by repeat (first | (with_reducible first | exact (Q_HI0_e2 h0_ h1_) | apply IsS64.alloc | apply IsS64.drewN | apply IsS64.drew | apply IsS64.set_1) | exact (Q_HI0_e2 h0_ h1_))) hb))
                      have z_HO184 := fun (h0_ : b 5 = true) => (show Kd.R (Kd.int .i64) 3 w23 w.heap.size (fun _ => True) v183 y182 from by first | exact (Kd.R_elder' (by (with_reducible repeat (first | apply Kd.R_alloc | apply Kd.R_drewN | apply Kd.R_drew)); exact (Q_HO184 h0_)) (Kd.R_base ho24) hb) | exact Kd.R_mono (Kd.R_elder' (by (with_reducible repeat (first | apply Kd.R_alloc | apply Kd.R_drewN | apply Kd.R_drew)); exact (Q_HO184 h0_)) (Kd.R_base ho24) hb) (fun _ h_ => by first | trivial | exact h_ | exact h_.1))
                      have z_HI0_e7 := fun (h0_ : b 7 = true) (h1_ : b 12 = false) => (show IsS64 w0 w23 g s0_0 t186 from by first | exact (IsS64.below (by repeat (first | (with_reducible first | exact (Q_HI0_e7 h0_ h1_) | apply IsS64.alloc | apply IsS64.drewN | apply IsS64.drew | apply IsS64.set_1) | exact (Q_HI0_e7 h0_ h1_))) hb))
                      have z_HO190 := fun (h0_ : b 10 = true) => (show Kd.R (Kd.int .i64) 3 w23 w.heap.size (fun _ => True) v189 y188 from by first | exact (Kd.R_elder' (by (with_reducible repeat (first | apply Kd.R_alloc | apply Kd.R_drewN | apply Kd.R_drew)); exact (Q_HO190 h0_)) (Kd.R_base ho24) hb) | exact Kd.R_mono (Kd.R_elder' (by (with_reducible repeat (first | apply Kd.R_alloc | apply Kd.R_drewN | apply Kd.R_drew)); exact (Q_HO190 h0_)) (Kd.R_base ho24) hb) (fun _ h_ => by first | trivial | exact h_ | exact h_.1))
                      have z_HI0_e12 := fun (h0_ : b 12 = true) => (show IsS64 w0 w23 g s0_0 t192 from by first | exact (IsS64.below (by repeat (first | (with_reducible first | exact (Q_HI0_e12 h0_) | apply IsS64.alloc | apply IsS64.drewN | apply IsS64.drew | apply IsS64.set_1) | exact (Q_HI0_e12 h0_))) hb))
                      clear HK
                      try clear HB
                      have HO178 := n0_
                      have HK := n2_
                      have HB := n3_
                      clear n0_ n2_ n3_
                      clear hb ho24
                      obtain ⟨Ao25, co25, eo25⟩ := Kd.R_slice HO178.out
                      subst eo25
                      obtain ⟨ado25, fo25, _⟩ := Kd.at_int (Kd.R_reads' HO178.out).2.2 0 (by decide) (by rw [Ny176.out]; simp)
                      cases fo25
                      refine hK.out _ _ ⟨.slice (some ado25) y176.length co25, ado25, v183, adz_v183, v189, adz_v189, m3_, m8_, m13_, (by rw [ha.out]; exact putSel_upk 0 hb_ rfl rfl rfl), z_HI0, (by repeat (first | (with_reducible first | exact HK.out | apply KeepBut.set_ | apply keep_drewN | apply keep_drew | apply keep_alloc) | exact HK.out)), (by repeat (first | (with_reducible first | exact HB.out | apply below_alloc | apply pw_below_drewN | apply below_drew1) | exact HB.out | exact Below.refl _ _)), fun _ => (by (with_reducible repeat (first | apply Kd.R_alloc | apply Kd.R_drewN | apply Kd.R_drew)); exact HO178.out), fun _ => ⟨_, rfl⟩, z_HI0_e2, z_HO184, Q_HA_HO184, z_HI0_e7, z_HO190, Q_HA_HO190, z_HI0_e12, fun h0_ => absurd ((hoff 3 (by kernel_rfl)).symm.trans h0_) (by decide), Q_X8_, Q_X13_⟩
                    refine steps_cons ?_ ?_
                    · rintro b a w' ⟨v177, adz_v177, v183, adz_v183, v189, adz_v189, m3_, m8_, m13_, ha, Q_HI0, Q_HK, Q_HB, Q_HO178, Q_HA_HO178, Q_HI0_e2, Q_HO184, Q_HA_HO184, Q_HI0_e7, Q_HO190, Q_HA_HO190, Q_HI0_e12, Q_X3_, Q_X8_, Q_X13_⟩ hb_ hon hoff
                      refine ⟨_, rfl, fun K hK => ?_⟩
                      have e35 : a.tmps[35]? = some (.pointer (some ⟨g, 0, none⟩)) := by rw [ha]; exact (putSel_off rfl).trans rfl
                      replace ha := Aside0.mk ha
                      have HI0 := Aside0.mk (Q_HI0 hb_)
                      have HK := Aside0.mk Q_HK
                      have HB := Aside0.mk Q_HB
                      refine goes_ Try.func49 (by kernel_rfl) rfl #[.pointer (some ⟨g, 0, none⟩), .int .i64 5] (by rfl) rfl rfl (by first | (simp only [List.map_toArray, List.map_cons, List.map_nil, Act.eval, Array.getD_eq_getD_getElem?, Option.getD_some, e35]; done) | (simp only [List.map_toArray, List.map_cons, List.map_nil, Act.eval, Array.getD_eq_getD_getElem?, Option.getD_some, e35]; rfl)) ?_
                      with_reducible refine (spec_l6Rd_pick.calls kj4 g s0_0 x1001_4 5 t179 t180 w0 _ ?side1 ?side2 A13.out).mono ?_
                      (case side1 => repeat (first | (with_reducible first | exact HI0.out | apply IsS64.alloc | apply IsS64.drewN | apply IsS64.drew | apply IsS64.set_1) | exact HI0.out))
                      (case side2 => repeat (first | (with_reducible first | exact HB.out | apply below_alloc | apply pw_below_drewN | apply below_drew1 | refine below_set ?_ (IsS64.ge HI0.out)) | exact HB.out))
                      rintro e w23 ⟨rfl, hi, hb, hk⟩
                      refine ⟨_, rfl, ?_⟩
                      have n0_ := Aside0.mk (KeepBut.trans (by repeat (first | (with_reducible first | exact HK.out | apply KeepBut.set_ | apply keep_drewN | apply keep_drew | apply keep_alloc) | exact HK.out)) hk (.inl rfl))
                      have n1_ := Aside0.mk (hb)
                      have n2_ := Aside0.mk (hi)
                      have z_HO178 := fun (h0_ : b 0 = true) => (show Kd.R (Kd.int .i64) 3 w23 w.heap.size (fun _ => True) v177 y176 from by first | exact (Kd.R_mono (Kd.R_keep (IsS64.apart (show IsS64 w0 _ g s0_0 x1001_4 from by repeat (first | (with_reducible first | exact HI0.out | apply IsS64.alloc | apply IsS64.drewN | apply IsS64.drew | apply IsS64.set_1) | exact HI0.out)) (by (with_reducible repeat (first | apply Kd.R_alloc | apply Kd.R_drewN | apply Kd.R_drew)); exact (Q_HO178 h0_)) (by decide)) hk (fun _ h => h.2)) (fun _ h => h.1)) | exact Kd.R_mono (Kd.R_mono (Kd.R_keep (IsS64.apart (show IsS64 w0 _ g s0_0 x1001_4 from by repeat (first | (with_reducible first | exact HI0.out | apply IsS64.alloc | apply IsS64.drewN | apply IsS64.drew | apply IsS64.set_1) | exact HI0.out)) (by (with_reducible repeat (first | apply Kd.R_alloc | apply Kd.R_drewN | apply Kd.R_drew)); exact (Q_HO178 h0_)) (by decide)) hk (fun _ h => h.2)) (fun _ h => h.1)) (fun _ h_ => by first | trivial | exact h_ | exact h_.1))
                      have z_HO184 := fun (h0_ : b 5 = true) => (show Kd.R (Kd.int .i64) 3 w23 w.heap.size (fun _ => True) v183 y182 from by first | exact (Kd.R_mono (Kd.R_keep (IsS64.apart (show IsS64 w0 _ g s0_0 x1001_4 from by repeat (first | (with_reducible first | exact HI0.out | apply IsS64.alloc | apply IsS64.drewN | apply IsS64.drew | apply IsS64.set_1) | exact HI0.out)) (by (with_reducible repeat (first | apply Kd.R_alloc | apply Kd.R_drewN | apply Kd.R_drew)); exact (Q_HO184 h0_)) (by decide)) hk (fun _ h => h.2)) (fun _ h => h.1)) | exact Kd.R_mono (Kd.R_mono (Kd.R_keep (IsS64.apart (show IsS64 w0 _ g s0_0 x1001_4 from by repeat (first | (with_reducible first | exact HI0.out | apply IsS64.alloc | apply IsS64.drewN | apply IsS64.drew | apply IsS64.set_1) | exact HI0.out)) (by (with_reducible repeat (first | apply Kd.R_alloc | apply Kd.R_drewN | apply Kd.R_drew)); exact (Q_HO184 h0_)) (by decide)) hk (fun _ h => h.2)) (fun _ h => h.1)) (fun _ h_ => by first | trivial | exact h_ | exact h_.1))
                      have z_HO190 := fun (h0_ : b 10 = true) => (show Kd.R (Kd.int .i64) 3 w23 w.heap.size (fun _ => True) v189 y188 from by first | exact (Kd.R_mono (Kd.R_keep (IsS64.apart (show IsS64 w0 _ g s0_0 x1001_4 from by repeat (first | (with_reducible first | exact HI0.out | apply IsS64.alloc | apply IsS64.drewN | apply IsS64.drew | apply IsS64.set_1) | exact HI0.out)) (by (with_reducible repeat (first | apply Kd.R_alloc | apply Kd.R_drewN | apply Kd.R_drew)); exact (Q_HO190 h0_)) (by decide)) hk (fun _ h => h.2)) (fun _ h => h.1)) | exact Kd.R_mono (Kd.R_mono (Kd.R_keep (IsS64.apart (show IsS64 w0 _ g s0_0 x1001_4 from by repeat (first | (with_reducible first | exact HI0.out | apply IsS64.alloc | apply IsS64.drewN | apply IsS64.drew | apply IsS64.set_1) | exact HI0.out)) (by (with_reducible repeat (first | apply Kd.R_alloc | apply Kd.R_drewN | apply Kd.R_drew)); exact (Q_HO190 h0_)) (by decide)) hk (fun _ h => h.2)) (fun _ h => h.1)) (fun _ h_ => by first | trivial | exact h_ | exact h_.1))
                      clear HK
                      try clear HB
                      clear HI0
                      have HK := n0_
                      have HB := n1_
                      have HI0 := n2_
                      clear n0_ n1_ n2_
                      (try clear hb)
                      (try clear hb2)
                      (try clear hk)
                      (try clear hi)
                      refine hK.out _ _ ⟨v177, adz_v177, v183, adz_v183, v189, adz_v189, m3_, m8_, m13_, (by rw [ha.out]; exact putSel_upk 1 hb_ rfl rfl rfl), fun h0_ => absurd ((up_self b 2).symm.trans h0_) (by decide), (by repeat (first | (with_reducible first | exact HK.out | apply KeepBut.set_ | apply keep_drewN | apply keep_drew | apply keep_alloc) | exact HK.out)), (by repeat (first | (with_reducible first | exact HB.out | apply below_alloc | apply pw_below_drewN | apply below_drew1 | refine below_set ?_ (IsS64.ge HI0.out)) | exact HB.out)), z_HO178, Q_HA_HO178, fun _ _ => (by repeat (first | (with_reducible first | exact HI0.out | apply IsS64.alloc | apply IsS64.drewN | apply IsS64.drew | apply IsS64.set_1) | exact HI0.out)), z_HO184, Q_HA_HO184, fun h0_ _ => absurd ((hoff 7 (by kernel_rfl)).symm.trans h0_) (by decide), z_HO190, Q_HA_HO190, fun h0_ => absurd ((hoff 12 (by kernel_rfl)).symm.trans h0_) (by decide), fun h0_ => absurd ((hoff 3 (by kernel_rfl)).symm.trans h0_) (by decide), fun h0_ => absurd ((hoff 8 (by kernel_rfl)).symm.trans h0_) (by decide), fun h0_ => absurd ((hoff 13 (by kernel_rfl)).symm.trans h0_) (by decide)⟩
                    refine steps_cons ?_ ?_
                    · rintro b a w' ⟨v177, adz_v177, v183, adz_v183, v189, adz_v189, m3_, m8_, m13_, ha, Q_HI0, Q_HK, Q_HB, Q_HO178, Q_HA_HO178, Q_HI0_e2, Q_HO184, Q_HA_HO184, Q_HI0_e7, Q_HO190, Q_HA_HO190, Q_HI0_e12, Q_X3_, Q_X8_, Q_X13_⟩ hb_ hon hoff
                      refine ⟨_, rfl, fun K hK => ?_⟩
                      have e34 : a.tmps[34]? = some (v177) := by rw [ha]; exact putSel_on (e := (0, 34, v177)) 0 rfl rfl (hon 0 (by kernel_rfl)) rfl
                      have e36 : a.tmps[36]? = some (.int .i64 t179) := by rw [ha]; exact putSel_on (e := (2, 36, .int .i64 t179)) 1 rfl rfl (hon 2 (by kernel_rfl)) rfl
                      replace ha := Aside0.mk ha
                      have HK := Aside0.mk Q_HK
                      have HB := Aside0.mk Q_HB
                      have HO178 := Aside0.mk (Q_HO178 (hon 0 (by kernel_rfl)))
                      have HA_HO178 := Aside0.mk (Q_HA_HO178 (hon 0 (by kernel_rfl)))
                      obtain ⟨c_, hv_⟩ := HA_HO178.out
                      rw [hv_] at e34
                      refine value_ (w1 := w') (v := .pointer (some (adz_v177.add (t179).toNat))) (by rfl) rfl ?_ ?_
                      · go_simp
                        (try simp only [i64_w])
                        try rfl
                      refine hK.out _ _ ⟨v177, adz_v177, v183, adz_v183, v189, adz_v189, (.pointer (some (adz_v177.add (t179).toNat))), m8_, m13_, (by rw [ha.out]; exact putSel_upk 2 hb_ rfl rfl rfl), fun h0_ => absurd ((hon 2 (by kernel_rfl)).symm.trans h0_) (by decide), Q_HK, Q_HB, Q_HO178, Q_HA_HO178, Q_HI0_e2, Q_HO184, Q_HA_HO184, Q_HI0_e7, Q_HO190, Q_HA_HO190, Q_HI0_e12, fun _ => rfl, Q_X8_, Q_X13_⟩
                    refine steps_cons ?_ ?_
                    · rintro b a w' ⟨v177, adz_v177, v183, adz_v183, v189, adz_v189, m3_, m8_, m13_, ha, Q_HI0, Q_HK, Q_HB, Q_HO178, Q_HA_HO178, Q_HI0_e2, Q_HO184, Q_HA_HO184, Q_HI0_e7, Q_HO190, Q_HA_HO190, Q_HI0_e12, Q_X3_, Q_X8_, Q_X13_⟩ hb_ hon hoff
                      refine ⟨_, rfl, fun K hK => ?_⟩
                      have e37 : a.tmps[37]? = some (m3_) := by rw [ha]; exact putSel_on (e := (3, 37, m3_)) 2 rfl rfl (hon 3 (by kernel_rfl)) rfl
                      rw [Q_X3_ (hon 3 (by kernel_rfl))] at e37
                      replace ha := Aside0.mk ha
                      have HK := Aside0.mk Q_HK
                      have HB := Aside0.mk Q_HB
                      have HO178 := Aside0.mk (Q_HO178 (hon 0 (by kernel_rfl)))
                      have HA_HO178 := Aside0.mk (Q_HA_HO178 (hon 0 (by kernel_rfl)))
                      obtain ⟨c_, hv_⟩ := HA_HO178.out
                      have hF_ := HO178.out
                      rw [hv_] at hF_
                      obtain ⟨ad_, ea_, hx_⟩ := Kd.at_int (Kd.R_reads' hF_).2.2 t179 (of_eq_true pi181) (of_eq_true qi181)
                      cases ea_
                      refine value_ (w1 := w') (v := .int .i64 (rd y176 t179)) (by rfl) rfl ?_ ?_
                      · go_simp
                        (try simp only [i64_w])
                        try rfl
                      refine hK.out _ _ ⟨v177, adz_v177, v183, adz_v183, v189, adz_v189, m3_, m8_, m13_, (by rw [ha.out]; exact putSel_upk 3 hb_ rfl rfl rfl), fun h0_ => absurd ((hon 2 (by kernel_rfl)).symm.trans h0_) (by decide), Q_HK, Q_HB, Q_HO178, Q_HA_HO178, Q_HI0_e2, Q_HO184, Q_HA_HO184, Q_HI0_e7, Q_HO190, Q_HA_HO190, Q_HI0_e12, Q_X3_, Q_X8_, Q_X13_⟩
                    refine steps_cons ?_ ?_
                    · rintro b a w' ⟨v177, adz_v177, v183, adz_v183, v189, adz_v189, m3_, m8_, m13_, ha, Q_HI0, Q_HK, Q_HB, Q_HO178, Q_HA_HO178, Q_HI0_e2, Q_HO184, Q_HA_HO184, Q_HI0_e7, Q_HO190, Q_HA_HO190, Q_HI0_e12, Q_X3_, Q_X8_, Q_X13_⟩ hb_ hon hoff
                      refine ⟨_, rfl, fun K hK => ?_⟩
                      replace ha := Aside0.mk ha
                      have HK := Aside0.mk Q_HK
                      have HB := Aside0.mk Q_HB
                      refine Kd.R_lit_step (Kd.int .i64) _ 3 ?hg (N := 39) ?hd (xs := ([4, 3, 8, 12] : List Int)) (inner := [.int .i64 4, .int .i64 3, .int .i64 8, .int .i64 12]) (ok := fun _ => True) (okp := fun _ => True) ?hr ?hp (fun _ hk => hk) trivial (Below.refl _ _) (Nat.le_refl _) (by simp) ?_; (case hd => rfl); (case hg => rfl); (case hr => first | (go_simp; done) | (go_simp; rfl)); (case hp => exact (Reps.one (show Kd.M (Kd.int .i64) _ _ _ 4 [.int .i64 4] from rfl) (Reps.one (show Kd.M (Kd.int .i64) _ _ _ 3 [.int .i64 3] from rfl) (Reps.one (show Kd.M (Kd.int .i64) _ _ _ 8 [.int .i64 8] from rfl) (Reps.one (show Kd.M (Kd.int .i64) _ _ _ 12 [.int .i64 12] from rfl) (Reps.none _ _))))))
                      intro v183 w23 ho24 hb hg_ hnew_
                      clear hg_ hnew_
                      (first | rw [← Ny182.out] at ho24 | (simp only [Int.reduceToNat] at ho24; rw [← Ny182.out] at ho24))
                      have n0_ := Aside0.mk (Kd.R_lower ho24 (keep_size (w := w) (g := g) (row := none) (by repeat (first | (with_reducible first | exact HK.out | apply KeepBut.set_ | apply keep_drewN | apply keep_drew | apply keep_alloc) | exact HK.out))))
                      have n2_ := Aside0.mk (KeepBut.trans (by repeat (first | (with_reducible first | exact HK.out | apply KeepBut.set_ | apply keep_drewN | apply keep_drew | apply keep_alloc) | exact HK.out)) (KeepBut.of_below hb g none) (.inl rfl))
                      have n3_ := Aside0.mk (below_step (by repeat (first | (with_reducible first | exact HB.out | apply below_alloc | apply pw_below_drewN | apply below_drew1) | exact HB.out | exact Below.refl _ _)) hb)
                      have z_HI0 := fun (h0_ : b 2 = false) => (show IsS64 w0 w23 g s0_0 x1001_4 from by first | exact (IsS64.below (by repeat (first | (with_reducible first | exact (Q_HI0 h0_) | apply IsS64.alloc | apply IsS64.drewN | apply IsS64.drew | apply IsS64.set_1) | exact (Q_HI0 h0_))) hb))
                      have z_HO178 := fun (h0_ : b 0 = true) => (show Kd.R (Kd.int .i64) 3 w23 w.heap.size (fun _ => True) v177 y176 from by first | exact (Kd.R_elder' (by (with_reducible repeat (first | apply Kd.R_alloc | apply Kd.R_drewN | apply Kd.R_drew)); exact (Q_HO178 h0_)) (Kd.R_base ho24) hb) | exact Kd.R_mono (Kd.R_elder' (by (with_reducible repeat (first | apply Kd.R_alloc | apply Kd.R_drewN | apply Kd.R_drew)); exact (Q_HO178 h0_)) (Kd.R_base ho24) hb) (fun _ h_ => by first | trivial | exact h_ | exact h_.1))
                      have z_HI0_e2 := fun (h0_ : b 2 = true) (h1_ : b 7 = false) => (show IsS64 w0 w23 g s0_0 t180 from by first | exact (IsS64.below (by repeat (first | (with_reducible first | exact (Q_HI0_e2 h0_ h1_) | apply IsS64.alloc | apply IsS64.drewN | apply IsS64.drew | apply IsS64.set_1) | exact (Q_HI0_e2 h0_ h1_))) hb))
                      have z_HI0_e7 := fun (h0_ : b 7 = true) (h1_ : b 12 = false) => (show IsS64 w0 w23 g s0_0 t186 from by first | exact (IsS64.below (by repeat (first | (with_reducible first | exact (Q_HI0_e7 h0_ h1_) | apply IsS64.alloc | apply IsS64.drewN | apply IsS64.drew | apply IsS64.set_1) | exact (Q_HI0_e7 h0_ h1_))) hb))
                      have z_HO190 := fun (h0_ : b 10 = true) => (show Kd.R (Kd.int .i64) 3 w23 w.heap.size (fun _ => True) v189 y188 from by first | exact (Kd.R_elder' (by (with_reducible repeat (first | apply Kd.R_alloc | apply Kd.R_drewN | apply Kd.R_drew)); exact (Q_HO190 h0_)) (Kd.R_base ho24) hb) | exact Kd.R_mono (Kd.R_elder' (by (with_reducible repeat (first | apply Kd.R_alloc | apply Kd.R_drewN | apply Kd.R_drew)); exact (Q_HO190 h0_)) (Kd.R_base ho24) hb) (fun _ h_ => by first | trivial | exact h_ | exact h_.1))
                      have z_HI0_e12 := fun (h0_ : b 12 = true) => (show IsS64 w0 w23 g s0_0 t192 from by first | exact (IsS64.below (by repeat (first | (with_reducible first | exact (Q_HI0_e12 h0_) | apply IsS64.alloc | apply IsS64.drewN | apply IsS64.drew | apply IsS64.set_1) | exact (Q_HI0_e12 h0_))) hb))
                      clear HK
                      try clear HB
                      have HO184 := n0_
                      have HK := n2_
                      have HB := n3_
                      clear n0_ n2_ n3_
                      clear hb ho24
                      obtain ⟨Ao25, co25, eo25⟩ := Kd.R_slice HO184.out
                      subst eo25
                      obtain ⟨ado25, fo25, _⟩ := Kd.at_int (Kd.R_reads' HO184.out).2.2 0 (by decide) (by rw [Ny182.out]; simp)
                      cases fo25
                      refine hK.out _ _ ⟨v177, adz_v177, .slice (some ado25) y182.length co25, ado25, v189, adz_v189, m3_, m8_, m13_, (by rw [ha.out]; exact putSel_upk 4 hb_ rfl rfl rfl), z_HI0, (by repeat (first | (with_reducible first | exact HK.out | apply KeepBut.set_ | apply keep_drewN | apply keep_drew | apply keep_alloc) | exact HK.out)), (by repeat (first | (with_reducible first | exact HB.out | apply below_alloc | apply pw_below_drewN | apply below_drew1) | exact HB.out | exact Below.refl _ _)), z_HO178, Q_HA_HO178, z_HI0_e2, fun _ => (by (with_reducible repeat (first | apply Kd.R_alloc | apply Kd.R_drewN | apply Kd.R_drew)); exact HO184.out), fun _ => ⟨_, rfl⟩, z_HI0_e7, z_HO190, Q_HA_HO190, z_HI0_e12, Q_X3_, fun h0_ => absurd ((hoff 8 (by kernel_rfl)).symm.trans h0_) (by decide), Q_X13_⟩
                    refine steps_cons ?_ ?_
                    · rintro b a w' ⟨v177, adz_v177, v183, adz_v183, v189, adz_v189, m3_, m8_, m13_, ha, Q_HI0, Q_HK, Q_HB, Q_HO178, Q_HA_HO178, Q_HI0_e2, Q_HO184, Q_HA_HO184, Q_HI0_e7, Q_HO190, Q_HA_HO190, Q_HI0_e12, Q_X3_, Q_X8_, Q_X13_⟩ hb_ hon hoff
                      refine ⟨_, rfl, fun K hK => ?_⟩
                      have e40 : a.tmps[40]? = some (.pointer (some ⟨g, 0, none⟩)) := by rw [ha]; exact (putSel_off rfl).trans rfl
                      replace ha := Aside0.mk ha
                      have HK := Aside0.mk Q_HK
                      have HB := Aside0.mk Q_HB
                      have HI0 := Aside0.mk (Q_HI0_e2 (hon 2 (by kernel_rfl)) hb_)
                      refine goes_ Try.func49 (by kernel_rfl) rfl #[.pointer (some ⟨g, 0, none⟩), .int .i64 4] (by rfl) rfl rfl (by first | (simp only [List.map_toArray, List.map_cons, List.map_nil, Act.eval, Array.getD_eq_getD_getElem?, Option.getD_some, e40]; done) | (simp only [List.map_toArray, List.map_cons, List.map_nil, Act.eval, Array.getD_eq_getD_getElem?, Option.getD_some, e40]; rfl)) ?_
                      with_reducible refine (spec_l6Rd_pick.calls kj4 g s0_0 t180 4 t185 t186 w0 _ ?side1 ?side2 A16.out).mono ?_
                      (case side1 => repeat (first | (with_reducible first | exact HI0.out | apply IsS64.alloc | apply IsS64.drewN | apply IsS64.drew | apply IsS64.set_1) | exact HI0.out))
                      (case side2 => repeat (first | (with_reducible first | exact HB.out | apply below_alloc | apply pw_below_drewN | apply below_drew1 | refine below_set ?_ (IsS64.ge HI0.out)) | exact HB.out))
                      rintro e w25 ⟨rfl, hi, hb, hk⟩
                      refine ⟨_, rfl, ?_⟩
                      have n0_ := Aside0.mk (KeepBut.trans (by repeat (first | (with_reducible first | exact HK.out | apply KeepBut.set_ | apply keep_drewN | apply keep_drew | apply keep_alloc) | exact HK.out)) hk (.inl rfl))
                      have n1_ := Aside0.mk (hb)
                      have n2_ := Aside0.mk (hi)
                      have z_HO178 := fun (h0_ : b 0 = true) => (show Kd.R (Kd.int .i64) 3 w25 w.heap.size (fun _ => True) v177 y176 from by first | exact (Kd.R_mono (Kd.R_keep (IsS64.apart (show IsS64 w0 _ g s0_0 t180 from by repeat (first | (with_reducible first | exact HI0.out | apply IsS64.alloc | apply IsS64.drewN | apply IsS64.drew | apply IsS64.set_1) | exact HI0.out)) (by (with_reducible repeat (first | apply Kd.R_alloc | apply Kd.R_drewN | apply Kd.R_drew)); exact (Q_HO178 h0_)) (by decide)) hk (fun _ h => h.2)) (fun _ h => h.1)) | exact Kd.R_mono (Kd.R_mono (Kd.R_keep (IsS64.apart (show IsS64 w0 _ g s0_0 t180 from by repeat (first | (with_reducible first | exact HI0.out | apply IsS64.alloc | apply IsS64.drewN | apply IsS64.drew | apply IsS64.set_1) | exact HI0.out)) (by (with_reducible repeat (first | apply Kd.R_alloc | apply Kd.R_drewN | apply Kd.R_drew)); exact (Q_HO178 h0_)) (by decide)) hk (fun _ h => h.2)) (fun _ h => h.1)) (fun _ h_ => by first | trivial | exact h_ | exact h_.1))
                      have z_HO184 := fun (h0_ : b 5 = true) => (show Kd.R (Kd.int .i64) 3 w25 w.heap.size (fun _ => True) v183 y182 from by first | exact (Kd.R_mono (Kd.R_keep (IsS64.apart (show IsS64 w0 _ g s0_0 t180 from by repeat (first | (with_reducible first | exact HI0.out | apply IsS64.alloc | apply IsS64.drewN | apply IsS64.drew | apply IsS64.set_1) | exact HI0.out)) (by (with_reducible repeat (first | apply Kd.R_alloc | apply Kd.R_drewN | apply Kd.R_drew)); exact (Q_HO184 h0_)) (by decide)) hk (fun _ h => h.2)) (fun _ h => h.1)) | exact Kd.R_mono (Kd.R_mono (Kd.R_keep (IsS64.apart (show IsS64 w0 _ g s0_0 t180 from by repeat (first | (with_reducible first | exact HI0.out | apply IsS64.alloc | apply IsS64.drewN | apply IsS64.drew | apply IsS64.set_1) | exact HI0.out)) (by (with_reducible repeat (first | apply Kd.R_alloc | apply Kd.R_drewN | apply Kd.R_drew)); exact (Q_HO184 h0_)) (by decide)) hk (fun _ h => h.2)) (fun _ h => h.1)) (fun _ h_ => by first | trivial | exact h_ | exact h_.1))
                      have z_HO190 := fun (h0_ : b 10 = true) => (show Kd.R (Kd.int .i64) 3 w25 w.heap.size (fun _ => True) v189 y188 from by first | exact (Kd.R_mono (Kd.R_keep (IsS64.apart (show IsS64 w0 _ g s0_0 t180 from by repeat (first | (with_reducible first | exact HI0.out | apply IsS64.alloc | apply IsS64.drewN | apply IsS64.drew | apply IsS64.set_1) | exact HI0.out)) (by (with_reducible repeat (first | apply Kd.R_alloc | apply Kd.R_drewN | apply Kd.R_drew)); exact (Q_HO190 h0_)) (by decide)) hk (fun _ h => h.2)) (fun _ h => h.1)) | exact Kd.R_mono (Kd.R_mono (Kd.R_keep (IsS64.apart (show IsS64 w0 _ g s0_0 t180 from by repeat (first | (with_reducible first | exact HI0.out | apply IsS64.alloc | apply IsS64.drewN | apply IsS64.drew | apply IsS64.set_1) | exact HI0.out)) (by (with_reducible repeat (first | apply Kd.R_alloc | apply Kd.R_drewN | apply Kd.R_drew)); exact (Q_HO190 h0_)) (by decide)) hk (fun _ h => h.2)) (fun _ h => h.1)) (fun _ h_ => by first | trivial | exact h_ | exact h_.1))
                      clear HK
                      try clear HB
                      clear HI0
                      have HK := n0_
                      have HB := n1_
                      have HI0 := n2_
                      clear n0_ n1_ n2_
                      (try clear hb)
                      (try clear hb2)
                      (try clear hk)
                      (try clear hi)
                      refine hK.out _ _ ⟨v177, adz_v177, v183, adz_v183, v189, adz_v189, m3_, m8_, m13_, (by rw [ha.out]; exact putSel_upk 5 hb_ rfl rfl rfl), fun h0_ => absurd ((hon 2 (by kernel_rfl)).symm.trans h0_) (by decide), (by repeat (first | (with_reducible first | exact HK.out | apply KeepBut.set_ | apply keep_drewN | apply keep_drew | apply keep_alloc) | exact HK.out)), (by repeat (first | (with_reducible first | exact HB.out | apply below_alloc | apply pw_below_drewN | apply below_drew1 | refine below_set ?_ (IsS64.ge HI0.out)) | exact HB.out)), z_HO178, Q_HA_HO178, fun _ h1_ => absurd ((up_self b 7).symm.trans h1_) (by decide), z_HO184, Q_HA_HO184, fun _ _ => (by repeat (first | (with_reducible first | exact HI0.out | apply IsS64.alloc | apply IsS64.drewN | apply IsS64.drew | apply IsS64.set_1) | exact HI0.out)), z_HO190, Q_HA_HO190, fun h0_ => absurd ((hoff 12 (by kernel_rfl)).symm.trans h0_) (by decide), Q_X3_, fun h0_ => absurd ((hoff 8 (by kernel_rfl)).symm.trans h0_) (by decide), fun h0_ => absurd ((hoff 13 (by kernel_rfl)).symm.trans h0_) (by decide)⟩
                    refine steps_cons ?_ ?_
                    · rintro b a w' ⟨v177, adz_v177, v183, adz_v183, v189, adz_v189, m3_, m8_, m13_, ha, Q_HI0, Q_HK, Q_HB, Q_HO178, Q_HA_HO178, Q_HI0_e2, Q_HO184, Q_HA_HO184, Q_HI0_e7, Q_HO190, Q_HA_HO190, Q_HI0_e12, Q_X3_, Q_X8_, Q_X13_⟩ hb_ hon hoff
                      refine ⟨_, rfl, fun K hK => ?_⟩
                      have e39 : a.tmps[39]? = some (v183) := by rw [ha]; exact putSel_on (e := (5, 39, v183)) 4 rfl rfl (hon 5 (by kernel_rfl)) rfl
                      have e41 : a.tmps[41]? = some (.int .i64 t185) := by rw [ha]; exact putSel_on (e := (7, 41, .int .i64 t185)) 5 rfl rfl (hon 7 (by kernel_rfl)) rfl
                      replace ha := Aside0.mk ha
                      have HK := Aside0.mk Q_HK
                      have HB := Aside0.mk Q_HB
                      have HO184 := Aside0.mk (Q_HO184 (hon 5 (by kernel_rfl)))
                      have HA_HO184 := Aside0.mk (Q_HA_HO184 (hon 5 (by kernel_rfl)))
                      obtain ⟨c_, hv_⟩ := HA_HO184.out
                      rw [hv_] at e39
                      refine value_ (w1 := w') (v := .pointer (some (adz_v183.add (t185).toNat))) (by rfl) rfl ?_ ?_
                      · go_simp
                        (try simp only [i64_w])
                        try rfl
                      refine hK.out _ _ ⟨v177, adz_v177, v183, adz_v183, v189, adz_v189, m3_, (.pointer (some (adz_v183.add (t185).toNat))), m13_, (by rw [ha.out]; exact putSel_upk 6 hb_ rfl rfl rfl), fun h0_ => absurd ((hon 2 (by kernel_rfl)).symm.trans h0_) (by decide), Q_HK, Q_HB, Q_HO178, Q_HA_HO178, fun _ h1_ => absurd ((hon 7 (by kernel_rfl)).symm.trans h1_) (by decide), Q_HO184, Q_HA_HO184, Q_HI0_e7, Q_HO190, Q_HA_HO190, Q_HI0_e12, Q_X3_, fun _ => rfl, Q_X13_⟩
                    refine steps_cons ?_ ?_
                    · rintro b a w' ⟨v177, adz_v177, v183, adz_v183, v189, adz_v189, m3_, m8_, m13_, ha, Q_HI0, Q_HK, Q_HB, Q_HO178, Q_HA_HO178, Q_HI0_e2, Q_HO184, Q_HA_HO184, Q_HI0_e7, Q_HO190, Q_HA_HO190, Q_HI0_e12, Q_X3_, Q_X8_, Q_X13_⟩ hb_ hon hoff
                      refine ⟨_, rfl, fun K hK => ?_⟩
                      have e42 : a.tmps[42]? = some (m8_) := by rw [ha]; exact putSel_on (e := (8, 42, m8_)) 6 rfl rfl (hon 8 (by kernel_rfl)) rfl
                      rw [Q_X8_ (hon 8 (by kernel_rfl))] at e42
                      replace ha := Aside0.mk ha
                      have HK := Aside0.mk Q_HK
                      have HB := Aside0.mk Q_HB
                      have HO184 := Aside0.mk (Q_HO184 (hon 5 (by kernel_rfl)))
                      have HA_HO184 := Aside0.mk (Q_HA_HO184 (hon 5 (by kernel_rfl)))
                      obtain ⟨c_, hv_⟩ := HA_HO184.out
                      have hF_ := HO184.out
                      rw [hv_] at hF_
                      obtain ⟨ad_, ea_, hx_⟩ := Kd.at_int (Kd.R_reads' hF_).2.2 t185 (of_eq_true pi187) (of_eq_true qi187)
                      cases ea_
                      refine value_ (w1 := w') (v := .int .i64 (rd y182 t185)) (by rfl) rfl ?_ ?_
                      · go_simp
                        (try simp only [i64_w])
                        try rfl
                      refine hK.out _ _ ⟨v177, adz_v177, v183, adz_v183, v189, adz_v189, m3_, m8_, m13_, (by rw [ha.out]; exact putSel_upk 7 hb_ rfl rfl rfl), fun h0_ => absurd ((hon 2 (by kernel_rfl)).symm.trans h0_) (by decide), Q_HK, Q_HB, Q_HO178, Q_HA_HO178, fun _ h1_ => absurd ((hon 7 (by kernel_rfl)).symm.trans h1_) (by decide), Q_HO184, Q_HA_HO184, Q_HI0_e7, Q_HO190, Q_HA_HO190, Q_HI0_e12, Q_X3_, Q_X8_, Q_X13_⟩
                    refine steps_cons ?_ ?_
                    · rintro b a w' ⟨v177, adz_v177, v183, adz_v183, v189, adz_v189, m3_, m8_, m13_, ha, Q_HI0, Q_HK, Q_HB, Q_HO178, Q_HA_HO178, Q_HI0_e2, Q_HO184, Q_HA_HO184, Q_HI0_e7, Q_HO190, Q_HA_HO190, Q_HI0_e12, Q_X3_, Q_X8_, Q_X13_⟩ hb_ hon hoff
                      refine ⟨_, rfl, fun K hK => ?_⟩
                      replace ha := Aside0.mk ha
                      have HK := Aside0.mk Q_HK
                      have HB := Aside0.mk Q_HB
                      refine Kd.R_lit_step (Kd.int .i64) _ 3 ?hg (N := 44) ?hd (xs := ([5, 10, 13] : List Int)) (inner := [.int .i64 5, .int .i64 10, .int .i64 13]) (ok := fun _ => True) (okp := fun _ => True) ?hr ?hp (fun _ hk => hk) trivial (Below.refl _ _) (Nat.le_refl _) (by simp) ?_; (case hd => rfl); (case hg => rfl); (case hr => first | (go_simp; done) | (go_simp; rfl)); (case hp => exact (Reps.one (show Kd.M (Kd.int .i64) _ _ _ 5 [.int .i64 5] from rfl) (Reps.one (show Kd.M (Kd.int .i64) _ _ _ 10 [.int .i64 10] from rfl) (Reps.one (show Kd.M (Kd.int .i64) _ _ _ 13 [.int .i64 13] from rfl) (Reps.none _ _)))))
                      intro v189 w23 ho24 hb hg_ hnew_
                      clear hg_ hnew_
                      (first | rw [← Ny188.out] at ho24 | (simp only [Int.reduceToNat] at ho24; rw [← Ny188.out] at ho24))
                      have n0_ := Aside0.mk (Kd.R_lower ho24 (keep_size (w := w) (g := g) (row := none) (by repeat (first | (with_reducible first | exact HK.out | apply KeepBut.set_ | apply keep_drewN | apply keep_drew | apply keep_alloc) | exact HK.out))))
                      have n2_ := Aside0.mk (KeepBut.trans (by repeat (first | (with_reducible first | exact HK.out | apply KeepBut.set_ | apply keep_drewN | apply keep_drew | apply keep_alloc) | exact HK.out)) (KeepBut.of_below hb g none) (.inl rfl))
                      have n3_ := Aside0.mk (below_step (by repeat (first | (with_reducible first | exact HB.out | apply below_alloc | apply pw_below_drewN | apply below_drew1) | exact HB.out | exact Below.refl _ _)) hb)
                      have z_HI0 := fun (h0_ : b 2 = false) => (show IsS64 w0 w23 g s0_0 x1001_4 from by first | exact (IsS64.below (by repeat (first | (with_reducible first | exact (Q_HI0 h0_) | apply IsS64.alloc | apply IsS64.drewN | apply IsS64.drew | apply IsS64.set_1) | exact (Q_HI0 h0_))) hb))
                      have z_HO178 := fun (h0_ : b 0 = true) => (show Kd.R (Kd.int .i64) 3 w23 w.heap.size (fun _ => True) v177 y176 from by first | exact (Kd.R_elder' (by (with_reducible repeat (first | apply Kd.R_alloc | apply Kd.R_drewN | apply Kd.R_drew)); exact (Q_HO178 h0_)) (Kd.R_base ho24) hb) | exact Kd.R_mono (Kd.R_elder' (by (with_reducible repeat (first | apply Kd.R_alloc | apply Kd.R_drewN | apply Kd.R_drew)); exact (Q_HO178 h0_)) (Kd.R_base ho24) hb) (fun _ h_ => by first | trivial | exact h_ | exact h_.1))
                      have z_HI0_e2 := fun (h0_ : b 2 = true) (h1_ : b 7 = false) => (show IsS64 w0 w23 g s0_0 t180 from by first | exact (IsS64.below (by repeat (first | (with_reducible first | exact (Q_HI0_e2 h0_ h1_) | apply IsS64.alloc | apply IsS64.drewN | apply IsS64.drew | apply IsS64.set_1) | exact (Q_HI0_e2 h0_ h1_))) hb))
                      have z_HO184 := fun (h0_ : b 5 = true) => (show Kd.R (Kd.int .i64) 3 w23 w.heap.size (fun _ => True) v183 y182 from by first | exact (Kd.R_elder' (by (with_reducible repeat (first | apply Kd.R_alloc | apply Kd.R_drewN | apply Kd.R_drew)); exact (Q_HO184 h0_)) (Kd.R_base ho24) hb) | exact Kd.R_mono (Kd.R_elder' (by (with_reducible repeat (first | apply Kd.R_alloc | apply Kd.R_drewN | apply Kd.R_drew)); exact (Q_HO184 h0_)) (Kd.R_base ho24) hb) (fun _ h_ => by first | trivial | exact h_ | exact h_.1))
                      have z_HI0_e7 := fun (h0_ : b 7 = true) (h1_ : b 12 = false) => (show IsS64 w0 w23 g s0_0 t186 from by first | exact (IsS64.below (by repeat (first | (with_reducible first | exact (Q_HI0_e7 h0_ h1_) | apply IsS64.alloc | apply IsS64.drewN | apply IsS64.drew | apply IsS64.set_1) | exact (Q_HI0_e7 h0_ h1_))) hb))
                      have z_HI0_e12 := fun (h0_ : b 12 = true) => (show IsS64 w0 w23 g s0_0 t192 from by first | exact (IsS64.below (by repeat (first | (with_reducible first | exact (Q_HI0_e12 h0_) | apply IsS64.alloc | apply IsS64.drewN | apply IsS64.drew | apply IsS64.set_1) | exact (Q_HI0_e12 h0_))) hb))
                      clear HK
                      try clear HB
                      have HO190 := n0_
                      have HK := n2_
                      have HB := n3_
                      clear n0_ n2_ n3_
                      clear hb ho24
                      obtain ⟨Ao25, co25, eo25⟩ := Kd.R_slice HO190.out
                      subst eo25
                      obtain ⟨ado25, fo25, _⟩ := Kd.at_int (Kd.R_reads' HO190.out).2.2 0 (by decide) (by rw [Ny188.out]; simp)
                      cases fo25
                      refine hK.out _ _ ⟨v177, adz_v177, v183, adz_v183, .slice (some ado25) y188.length co25, ado25, m3_, m8_, m13_, (by rw [ha.out]; exact putSel_upk 8 hb_ rfl rfl rfl), z_HI0, (by repeat (first | (with_reducible first | exact HK.out | apply KeepBut.set_ | apply keep_drewN | apply keep_drew | apply keep_alloc) | exact HK.out)), (by repeat (first | (with_reducible first | exact HB.out | apply below_alloc | apply pw_below_drewN | apply below_drew1) | exact HB.out | exact Below.refl _ _)), z_HO178, Q_HA_HO178, z_HI0_e2, z_HO184, Q_HA_HO184, z_HI0_e7, fun _ => (by (with_reducible repeat (first | apply Kd.R_alloc | apply Kd.R_drewN | apply Kd.R_drew)); exact HO190.out), fun _ => ⟨_, rfl⟩, z_HI0_e12, Q_X3_, Q_X8_, fun h0_ => absurd ((hoff 13 (by kernel_rfl)).symm.trans h0_) (by decide)⟩
                    refine steps_cons ?_ ?_
                    · rintro b a w' ⟨v177, adz_v177, v183, adz_v183, v189, adz_v189, m3_, m8_, m13_, ha, Q_HI0, Q_HK, Q_HB, Q_HO178, Q_HA_HO178, Q_HI0_e2, Q_HO184, Q_HA_HO184, Q_HI0_e7, Q_HO190, Q_HA_HO190, Q_HI0_e12, Q_X3_, Q_X8_, Q_X13_⟩ hb_ hon hoff
                      refine ⟨_, rfl, fun K hK => ?_⟩
                      have e45 : a.tmps[45]? = some (.pointer (some ⟨g, 0, none⟩)) := by rw [ha]; exact (putSel_off rfl).trans rfl
                      replace ha := Aside0.mk ha
                      have HK := Aside0.mk Q_HK
                      have HB := Aside0.mk Q_HB
                      have HI0 := Aside0.mk (Q_HI0_e7 (hon 7 (by kernel_rfl)) hb_)
                      refine goes_ Try.func49 (by kernel_rfl) rfl #[.pointer (some ⟨g, 0, none⟩), .int .i64 3] (by rfl) rfl rfl (by first | (simp only [List.map_toArray, List.map_cons, List.map_nil, Act.eval, Array.getD_eq_getD_getElem?, Option.getD_some, e45]; done) | (simp only [List.map_toArray, List.map_cons, List.map_nil, Act.eval, Array.getD_eq_getD_getElem?, Option.getD_some, e45]; rfl)) ?_
                      with_reducible refine (spec_l6Rd_pick.calls kj4 g s0_0 t186 3 t191 t192 w0 _ ?side1 ?side2 A19.out).mono ?_
                      (case side1 => repeat (first | (with_reducible first | exact HI0.out | apply IsS64.alloc | apply IsS64.drewN | apply IsS64.drew | apply IsS64.set_1) | exact HI0.out))
                      (case side2 => repeat (first | (with_reducible first | exact HB.out | apply below_alloc | apply pw_below_drewN | apply below_drew1 | refine below_set ?_ (IsS64.ge HI0.out)) | exact HB.out))
                      rintro e w26 ⟨rfl, hi, hb, hk⟩
                      refine ⟨_, rfl, ?_⟩
                      have n0_ := Aside0.mk (KeepBut.trans (by repeat (first | (with_reducible first | exact HK.out | apply KeepBut.set_ | apply keep_drewN | apply keep_drew | apply keep_alloc) | exact HK.out)) hk (.inl rfl))
                      have n1_ := Aside0.mk (hb)
                      have n2_ := Aside0.mk (hi)
                      have z_HO178 := fun (h0_ : b 0 = true) => (show Kd.R (Kd.int .i64) 3 w26 w.heap.size (fun _ => True) v177 y176 from by first | exact (Kd.R_mono (Kd.R_keep (IsS64.apart (show IsS64 w0 _ g s0_0 t186 from by repeat (first | (with_reducible first | exact HI0.out | apply IsS64.alloc | apply IsS64.drewN | apply IsS64.drew | apply IsS64.set_1) | exact HI0.out)) (by (with_reducible repeat (first | apply Kd.R_alloc | apply Kd.R_drewN | apply Kd.R_drew)); exact (Q_HO178 h0_)) (by decide)) hk (fun _ h => h.2)) (fun _ h => h.1)) | exact Kd.R_mono (Kd.R_mono (Kd.R_keep (IsS64.apart (show IsS64 w0 _ g s0_0 t186 from by repeat (first | (with_reducible first | exact HI0.out | apply IsS64.alloc | apply IsS64.drewN | apply IsS64.drew | apply IsS64.set_1) | exact HI0.out)) (by (with_reducible repeat (first | apply Kd.R_alloc | apply Kd.R_drewN | apply Kd.R_drew)); exact (Q_HO178 h0_)) (by decide)) hk (fun _ h => h.2)) (fun _ h => h.1)) (fun _ h_ => by first | trivial | exact h_ | exact h_.1))
                      have z_HO184 := fun (h0_ : b 5 = true) => (show Kd.R (Kd.int .i64) 3 w26 w.heap.size (fun _ => True) v183 y182 from by first | exact (Kd.R_mono (Kd.R_keep (IsS64.apart (show IsS64 w0 _ g s0_0 t186 from by repeat (first | (with_reducible first | exact HI0.out | apply IsS64.alloc | apply IsS64.drewN | apply IsS64.drew | apply IsS64.set_1) | exact HI0.out)) (by (with_reducible repeat (first | apply Kd.R_alloc | apply Kd.R_drewN | apply Kd.R_drew)); exact (Q_HO184 h0_)) (by decide)) hk (fun _ h => h.2)) (fun _ h => h.1)) | exact Kd.R_mono (Kd.R_mono (Kd.R_keep (IsS64.apart (show IsS64 w0 _ g s0_0 t186 from by repeat (first | (with_reducible first | exact HI0.out | apply IsS64.alloc | apply IsS64.drewN | apply IsS64.drew | apply IsS64.set_1) | exact HI0.out)) (by (with_reducible repeat (first | apply Kd.R_alloc | apply Kd.R_drewN | apply Kd.R_drew)); exact (Q_HO184 h0_)) (by decide)) hk (fun _ h => h.2)) (fun _ h => h.1)) (fun _ h_ => by first | trivial | exact h_ | exact h_.1))
                      have z_HO190 := fun (h0_ : b 10 = true) => (show Kd.R (Kd.int .i64) 3 w26 w.heap.size (fun _ => True) v189 y188 from by first | exact (Kd.R_mono (Kd.R_keep (IsS64.apart (show IsS64 w0 _ g s0_0 t186 from by repeat (first | (with_reducible first | exact HI0.out | apply IsS64.alloc | apply IsS64.drewN | apply IsS64.drew | apply IsS64.set_1) | exact HI0.out)) (by (with_reducible repeat (first | apply Kd.R_alloc | apply Kd.R_drewN | apply Kd.R_drew)); exact (Q_HO190 h0_)) (by decide)) hk (fun _ h => h.2)) (fun _ h => h.1)) | exact Kd.R_mono (Kd.R_mono (Kd.R_keep (IsS64.apart (show IsS64 w0 _ g s0_0 t186 from by repeat (first | (with_reducible first | exact HI0.out | apply IsS64.alloc | apply IsS64.drewN | apply IsS64.drew | apply IsS64.set_1) | exact HI0.out)) (by (with_reducible repeat (first | apply Kd.R_alloc | apply Kd.R_drewN | apply Kd.R_drew)); exact (Q_HO190 h0_)) (by decide)) hk (fun _ h => h.2)) (fun _ h => h.1)) (fun _ h_ => by first | trivial | exact h_ | exact h_.1))
                      clear HK
                      try clear HB
                      clear HI0
                      have HK := n0_
                      have HB := n1_
                      have HI0 := n2_
                      clear n0_ n1_ n2_
                      (try clear hb)
                      (try clear hb2)
                      (try clear hk)
                      (try clear hi)
                      refine hK.out _ _ ⟨v177, adz_v177, v183, adz_v183, v189, adz_v189, m3_, m8_, m13_, (by rw [ha.out]; exact putSel_upk 9 hb_ rfl rfl rfl), fun h0_ => absurd ((hon 2 (by kernel_rfl)).symm.trans h0_) (by decide), (by repeat (first | (with_reducible first | exact HK.out | apply KeepBut.set_ | apply keep_drewN | apply keep_drew | apply keep_alloc) | exact HK.out)), (by repeat (first | (with_reducible first | exact HB.out | apply below_alloc | apply pw_below_drewN | apply below_drew1 | refine below_set ?_ (IsS64.ge HI0.out)) | exact HB.out)), z_HO178, Q_HA_HO178, fun _ h1_ => absurd ((hon 7 (by kernel_rfl)).symm.trans h1_) (by decide), z_HO184, Q_HA_HO184, fun _ h1_ => absurd ((up_self b 12).symm.trans h1_) (by decide), z_HO190, Q_HA_HO190, fun _ => (by repeat (first | (with_reducible first | exact HI0.out | apply IsS64.alloc | apply IsS64.drewN | apply IsS64.drew | apply IsS64.set_1) | exact HI0.out)), Q_X3_, Q_X8_, fun h0_ => absurd ((hoff 13 (by kernel_rfl)).symm.trans h0_) (by decide)⟩
                    refine steps_cons ?_ ?_
                    · rintro b a w' ⟨v177, adz_v177, v183, adz_v183, v189, adz_v189, m3_, m8_, m13_, ha, Q_HI0, Q_HK, Q_HB, Q_HO178, Q_HA_HO178, Q_HI0_e2, Q_HO184, Q_HA_HO184, Q_HI0_e7, Q_HO190, Q_HA_HO190, Q_HI0_e12, Q_X3_, Q_X8_, Q_X13_⟩ hb_ hon hoff
                      refine ⟨_, rfl, fun K hK => ?_⟩
                      have e44 : a.tmps[44]? = some (v189) := by rw [ha]; exact putSel_on (e := (10, 44, v189)) 8 rfl rfl (hon 10 (by kernel_rfl)) rfl
                      have e46 : a.tmps[46]? = some (.int .i64 t191) := by rw [ha]; exact putSel_on (e := (12, 46, .int .i64 t191)) 9 rfl rfl (hon 12 (by kernel_rfl)) rfl
                      replace ha := Aside0.mk ha
                      have HK := Aside0.mk Q_HK
                      have HB := Aside0.mk Q_HB
                      have HO190 := Aside0.mk (Q_HO190 (hon 10 (by kernel_rfl)))
                      have HA_HO190 := Aside0.mk (Q_HA_HO190 (hon 10 (by kernel_rfl)))
                      have HI0 := Aside0.mk (Q_HI0_e12 (hon 12 (by kernel_rfl)))
                      obtain ⟨c_, hv_⟩ := HA_HO190.out
                      rw [hv_] at e44
                      refine value_ (w1 := w') (v := .pointer (some (adz_v189.add (t191).toNat))) (by rfl) rfl ?_ ?_
                      · go_simp
                        (try simp only [i64_w])
                        try rfl
                      refine hK.out _ _ ⟨v177, adz_v177, v183, adz_v183, v189, adz_v189, m3_, m8_, (.pointer (some (adz_v189.add (t191).toNat))), (by rw [ha.out]; exact putSel_upk 10 hb_ rfl rfl rfl), fun h0_ => absurd ((hon 2 (by kernel_rfl)).symm.trans h0_) (by decide), Q_HK, Q_HB, Q_HO178, Q_HA_HO178, fun _ h1_ => absurd ((hon 7 (by kernel_rfl)).symm.trans h1_) (by decide), Q_HO184, Q_HA_HO184, fun _ h1_ => absurd ((hon 12 (by kernel_rfl)).symm.trans h1_) (by decide), Q_HO190, Q_HA_HO190, Q_HI0_e12, Q_X3_, Q_X8_, fun _ => rfl⟩
                    refine steps_cons ?_ ?_
                    · rintro b a w' ⟨v177, adz_v177, v183, adz_v183, v189, adz_v189, m3_, m8_, m13_, ha, Q_HI0, Q_HK, Q_HB, Q_HO178, Q_HA_HO178, Q_HI0_e2, Q_HO184, Q_HA_HO184, Q_HI0_e7, Q_HO190, Q_HA_HO190, Q_HI0_e12, Q_X3_, Q_X8_, Q_X13_⟩ hb_ hon hoff
                      refine ⟨_, rfl, fun K hK => ?_⟩
                      have e47 : a.tmps[47]? = some (m13_) := by rw [ha]; exact putSel_on (e := (13, 47, m13_)) 10 rfl rfl (hon 13 (by kernel_rfl)) rfl
                      rw [Q_X13_ (hon 13 (by kernel_rfl))] at e47
                      replace ha := Aside0.mk ha
                      have HK := Aside0.mk Q_HK
                      have HB := Aside0.mk Q_HB
                      have HO190 := Aside0.mk (Q_HO190 (hon 10 (by kernel_rfl)))
                      have HA_HO190 := Aside0.mk (Q_HA_HO190 (hon 10 (by kernel_rfl)))
                      have HI0 := Aside0.mk (Q_HI0_e12 (hon 12 (by kernel_rfl)))
                      obtain ⟨c_, hv_⟩ := HA_HO190.out
                      have hF_ := HO190.out
                      rw [hv_] at hF_
                      obtain ⟨ad_, ea_, hx_⟩ := Kd.at_int (Kd.R_reads' hF_).2.2 t191 (of_eq_true pi193) (of_eq_true qi193)
                      cases ea_
                      refine value_ (w1 := w') (v := .int .i64 (rd y188 t191)) (by rfl) rfl ?_ ?_
                      · go_simp
                        (try simp only [i64_w])
                        try rfl
                      refine hK.out _ _ ⟨v177, adz_v177, v183, adz_v183, v189, adz_v189, m3_, m8_, m13_, (by rw [ha.out]; exact putSel_upk 11 hb_ rfl rfl rfl), fun h0_ => absurd ((hon 2 (by kernel_rfl)).symm.trans h0_) (by decide), Q_HK, Q_HB, Q_HO178, Q_HA_HO178, fun _ h1_ => absurd ((hon 7 (by kernel_rfl)).symm.trans h1_) (by decide), Q_HO184, Q_HA_HO184, fun _ h1_ => absurd ((hon 12 (by kernel_rfl)).symm.trans h1_) (by decide), Q_HO190, Q_HA_HO190, Q_HI0_e12, Q_X3_, Q_X8_, Q_X13_⟩
                    refine steps_cons ?_ ?_
                    · rintro b a w' ⟨v177, adz_v177, v183, adz_v183, v189, adz_v189, m3_, m8_, m13_, ha, Q_HI0, Q_HK, Q_HB, Q_HO178, Q_HA_HO178, Q_HI0_e2, Q_HO184, Q_HA_HO184, Q_HI0_e7, Q_HO190, Q_HA_HO190, Q_HI0_e12, Q_X3_, Q_X8_, Q_X13_⟩ hb_ hon hoff
                      refine ⟨_, rfl, fun K hK => ?_⟩
                      have e38 : a.tmps[38]? = some (.int .i64 (rd y176 t179)) := by rw [ha]; exact putSel_on (e := (4, 38, .int .i64 (rd y176 t179))) 3 rfl rfl (hon 4 (by kernel_rfl)) rfl
                      replace ha := Aside0.mk ha
                      have HK := Aside0.mk Q_HK
                      have HB := Aside0.mk Q_HB
                      have HO178 := Aside0.mk (Q_HO178 (hon 0 (by kernel_rfl)))
                      have HA_HO178 := Aside0.mk (Q_HA_HO178 (hon 0 (by kernel_rfl)))
                      have HI0 := Aside0.mk (Q_HI0_e12 (hon 12 (by kernel_rfl)))
                      refine value_ (w1 := w') (v := .int .i64 (rd y176 t179)) (by rfl) rfl ?_ ?_
                      · go_simp
                        (try simp only [i64_w])
                        try rfl
                      refine hK.out _ _ ⟨v177, adz_v177, v183, adz_v183, v189, adz_v189, m3_, m8_, m13_, (by rw [ha.out]; exact putSel_upk 12 hb_ rfl rfl rfl), fun h0_ => absurd ((hon 2 (by kernel_rfl)).symm.trans h0_) (by decide), Q_HK, Q_HB, Q_HO178, Q_HA_HO178, fun _ h1_ => absurd ((hon 7 (by kernel_rfl)).symm.trans h1_) (by decide), Q_HO184, Q_HA_HO184, fun _ h1_ => absurd ((hon 12 (by kernel_rfl)).symm.trans h1_) (by decide), Q_HO190, Q_HA_HO190, Q_HI0_e12, Q_X3_, Q_X8_, Q_X13_⟩
                    refine steps_cons ?_ ?_
                    · rintro b a w' ⟨v177, adz_v177, v183, adz_v183, v189, adz_v189, m3_, m8_, m13_, ha, Q_HI0, Q_HK, Q_HB, Q_HO178, Q_HA_HO178, Q_HI0_e2, Q_HO184, Q_HA_HO184, Q_HI0_e7, Q_HO190, Q_HA_HO190, Q_HI0_e12, Q_X3_, Q_X8_, Q_X13_⟩ hb_ hon hoff
                      refine ⟨_, rfl, fun K hK => ?_⟩
                      have e43 : a.tmps[43]? = some (.int .i64 (rd y182 t185)) := by rw [ha]; exact putSel_on (e := (9, 43, .int .i64 (rd y182 t185))) 7 rfl rfl (hon 9 (by kernel_rfl)) rfl
                      replace ha := Aside0.mk ha
                      have HK := Aside0.mk Q_HK
                      have HB := Aside0.mk Q_HB
                      have HO178 := Aside0.mk (Q_HO178 (hon 0 (by kernel_rfl)))
                      have HA_HO178 := Aside0.mk (Q_HA_HO178 (hon 0 (by kernel_rfl)))
                      have HO184 := Aside0.mk (Q_HO184 (hon 5 (by kernel_rfl)))
                      have HA_HO184 := Aside0.mk (Q_HA_HO184 (hon 5 (by kernel_rfl)))
                      have HI0 := Aside0.mk (Q_HI0_e12 (hon 12 (by kernel_rfl)))
                      refine value_ (w1 := w') (v := .int .i64 (rd y182 t185)) (by rfl) rfl ?_ ?_
                      · go_simp
                        (try simp only [i64_w])
                        try rfl
                      refine hK.out _ _ ⟨v177, adz_v177, v183, adz_v183, v189, adz_v189, m3_, m8_, m13_, (by rw [ha.out]; exact putSel_upk 13 hb_ rfl rfl rfl), fun h0_ => absurd ((hon 2 (by kernel_rfl)).symm.trans h0_) (by decide), Q_HK, Q_HB, Q_HO178, Q_HA_HO178, fun _ h1_ => absurd ((hon 7 (by kernel_rfl)).symm.trans h1_) (by decide), Q_HO184, Q_HA_HO184, fun _ h1_ => absurd ((hon 12 (by kernel_rfl)).symm.trans h1_) (by decide), Q_HO190, Q_HA_HO190, Q_HI0_e12, Q_X3_, Q_X8_, Q_X13_⟩
                    refine steps_cons ?_ ?_
                    · rintro b a w' ⟨v177, adz_v177, v183, adz_v183, v189, adz_v189, m3_, m8_, m13_, ha, Q_HI0, Q_HK, Q_HB, Q_HO178, Q_HA_HO178, Q_HI0_e2, Q_HO184, Q_HA_HO184, Q_HI0_e7, Q_HO190, Q_HA_HO190, Q_HI0_e12, Q_X3_, Q_X8_, Q_X13_⟩ hb_ hon hoff
                      refine ⟨_, rfl, fun K hK => ?_⟩
                      have e48 : a.tmps[48]? = some (.int .i64 (rd y188 t191)) := by rw [ha]; exact putSel_on (e := (14, 48, .int .i64 (rd y188 t191))) 11 rfl rfl (hon 14 (by kernel_rfl)) rfl
                      replace ha := Aside0.mk ha
                      have HK := Aside0.mk Q_HK
                      have HB := Aside0.mk Q_HB
                      have HO178 := Aside0.mk (Q_HO178 (hon 0 (by kernel_rfl)))
                      have HA_HO178 := Aside0.mk (Q_HA_HO178 (hon 0 (by kernel_rfl)))
                      have HO184 := Aside0.mk (Q_HO184 (hon 5 (by kernel_rfl)))
                      have HA_HO184 := Aside0.mk (Q_HA_HO184 (hon 5 (by kernel_rfl)))
                      have HO190 := Aside0.mk (Q_HO190 (hon 10 (by kernel_rfl)))
                      have HA_HO190 := Aside0.mk (Q_HA_HO190 (hon 10 (by kernel_rfl)))
                      have HI0 := Aside0.mk (Q_HI0_e12 (hon 12 (by kernel_rfl)))
                      refine value_ (w1 := w') (v := .int .i64 (rd y188 t191)) (by rfl) rfl ?_ ?_
                      · go_simp
                        (try simp only [i64_w])
                        try rfl
                      refine hK.out _ _ ⟨v177, adz_v177, v183, adz_v183, v189, adz_v189, m3_, m8_, m13_, (by rw [ha.out]; exact putSel_upk 14 hb_ rfl rfl rfl), fun h0_ => absurd ((hon 2 (by kernel_rfl)).symm.trans h0_) (by decide), Q_HK, Q_HB, Q_HO178, Q_HA_HO178, fun _ h1_ => absurd ((hon 7 (by kernel_rfl)).symm.trans h1_) (by decide), Q_HO184, Q_HA_HO184, fun _ h1_ => absurd ((hon 12 (by kernel_rfl)).symm.trans h1_) (by decide), Q_HO190, Q_HA_HO190, Q_HI0_e12, Q_X3_, Q_X8_, Q_X13_⟩
                    exact steps_nil
                  rintro b a w35 hall ⟨v177, adz_v177, v183, adz_v183, v189, adz_v189, m3_, m8_, m13_, ha, Q_HI0, Q_HK, Q_HB, Q_HO178, Q_HA_HO178, Q_HI0_e2, Q_HO184, Q_HA_HO184, Q_HI0_e7, Q_HO190, Q_HA_HO190, Q_HI0_e12, Q_X3_, Q_X8_, Q_X13_⟩
                  clear HB HI0 HK
                  have hb0_ := hall 0 (by kernel_rfl)
                  have hb2_ := hall 2 (by kernel_rfl)
                  have hb3_ := hall 3 (by kernel_rfl)
                  have hb4_ := hall 4 (by kernel_rfl)
                  have hb5_ := hall 5 (by kernel_rfl)
                  have hb7_ := hall 7 (by kernel_rfl)
                  have hb8_ := hall 8 (by kernel_rfl)
                  have hb9_ := hall 9 (by kernel_rfl)
                  have hb10_ := hall 10 (by kernel_rfl)
                  have hb12_ := hall 12 (by kernel_rfl)
                  have hb13_ := hall 13 (by kernel_rfl)
                  have hb14_ := hall 14 (by kernel_rfl)
                  have hb15_ := hall 15 (by kernel_rfl)
                  have hb16_ := hall 16 (by kernel_rfl)
                  have hb17_ := hall 17 (by kernel_rfl)
                  subst ha
                  obtain rfl := Q_X3_ hb3_
                  obtain rfl := Q_X8_ hb8_
                  obtain rfl := Q_X13_ hb13_
                  simp only [putSel, hb0_, hb2_, hb3_, hb4_, hb5_, hb7_, hb8_, hb9_, hb10_, hb12_, hb13_, hb14_, hb15_, hb16_, hb17_, if_true, Act.put, List.setIfInBounds_toArray, List.set_cons_zero, List.set_cons_succ]
                  clear Q_HI0
                  have HK := Aside0.mk Q_HK
                  clear Q_HK
                  have HB := Aside0.mk Q_HB
                  clear Q_HB
                  have HO178 := Aside0.mk (Q_HO178 hb0_)
                  clear Q_HO178
                  have HA_HO178 := Aside0.mk (Q_HA_HO178 hb0_)
                  clear Q_HA_HO178
                  clear Q_HI0_e2
                  have HO184 := Aside0.mk (Q_HO184 hb5_)
                  clear Q_HO184
                  have HA_HO184 := Aside0.mk (Q_HA_HO184 hb5_)
                  clear Q_HA_HO184
                  clear Q_HI0_e7
                  have HO190 := Aside0.mk (Q_HO190 hb10_)
                  clear Q_HO190
                  have HA_HO190 := Aside0.mk (Q_HA_HO190 hb10_)
                  clear Q_HA_HO190
                  have HI0 := Aside0.mk (Q_HI0_e12 hb12_)
                  clear Q_HI0_e12
                  clear hall hb0_ hb2_ hb3_ hb4_ hb5_ hb7_ hb8_ hb9_ hb10_ hb12_ hb13_ hb14_ hb15_ hb16_ hb17_
                  obtain ⟨co36, eo36⟩ := HA_HO178.out
                  clear HA_HO178
                  subst eo36
                  obtain ⟨co37, eo37⟩ := HA_HO184.out
                  clear HA_HO184
                  subst eo37
                  obtain ⟨co38, eo38⟩ := HA_HO190.out
                  clear HA_HO190
                  subst eo38
                  try go_wp2
                  go_ret3
                  exact ⟨by first | rfl | (simp [errW_none, errW_some] <;> rfl) | (simp [*, errW_none, errW_some] <;> rfl), by repeat (first | (with_reducible first | exact HI0.out | apply IsS64.alloc | apply IsS64.drewN | apply IsS64.drew | apply IsS64.set_1) | exact HI0.out), by repeat (first | (with_reducible first | exact HB.out | apply below_alloc | apply pw_below_drewN | apply below_drew1 | refine below_set ?_ (IsS64.ge HI0.out)) | exact HB.out), by repeat (first | (with_reducible first | exact HK.out | apply KeepBut.set_ | apply keep_drewN | apply keep_drew | apply keep_alloc) | exact HK.out)⟩
                rw [if_neg c21] at H
                exact absurd H (by simp)
              rw [if_neg c20] at H
              exact absurd H (by simp)
            rw [if_neg c18] at H
            exact absurd H (by simp)
          rw [if_neg c17] at H
          exact absurd H (by simp)
        rw [if_neg c15] at H
        exact absurd H (by simp)
      rw [if_neg c14] at H
      exact absurd H (by simp)

/-! ### spec_DrawTripleDepth: function 41 -/
def spec_DrawTripleDepth.f (k : Nat) (l0 : List Int) : Option (Int × Int × Int) := (spec_l6Open.f l0).bind fun bt194 => ((spec_l92Triple.f k bt194.1 bt194.2).bind fun bt197 => (some (bt197.1, bt197.2.1, bt197.2.2.1)))
theorem spec_DrawTripleDepth.mono : ∀ a0 k, LeO (spec_DrawTripleDepth.f k a0) (spec_DrawTripleDepth.f (k + 1) a0) := by
  intro a0 k
  unfold spec_DrawTripleDepth.f
  repeat' first
      | (with_reducible exact spec_l92Triple.mono _ _ _)
      | (with_reducible exact LeO.refl _)
      | (with_reducible exact LeO.none _)
      | (with_reducible refine LeO.ite ?_ ?_)
      | (with_reducible refine LeO.bind ?_ (fun _ => ?_))
      | exact spec_l92Triple.mono _ _ _
      | exact LeO.none _
      | refine LeO.ite ?_ ?_
      | refine LeO.bind ?_ (fun _ => ?_)
set_option maxHeartbeats 8000000 in
set_option maxRecDepth 100000 in
theorem spec_DrawTripleDepth.calls (k : Nat) (A0 : Option Addr) (c0 : Nat) (l0 : List Int) (r1 : Int) (r2 : Int) (r3 : Int) (w : World) (hr0 : Kd.C (Kd.int .u8) w A0 l0.length l0) (hc0 : l0.length ≤ c0) (h : spec_DrawTripleDepth.f k l0 = some (r1, r2, r3)) :
    Calls Try.prog 41 #[.slice A0 l0.length c0] w fun e w' => e = .returned (.tuple #[.int .i64 r1, .int .i64 r2, .int .i64 r3]) ∧ Below w.heap.size w w' := by
  have HR0 := Aside0.mk hr0
  have HC0 := Aside0.mk hc0
  clear hr0 hc0
  have HB := Aside0.mk (Below.refl w.heap.size w)
  have H : ((spec_l6Open.f l0).bind fun bt194 => ((spec_l92Triple.f k bt194.1 bt194.2).bind fun bt197 => (some (bt197.1, bt197.2.1, bt197.2.2.1)))) = some (r1, r2, r3) := h
  clear h
  replace H := Option.bind_eq_some_iff.mp H
  obtain ⟨⟨t194, t195⟩, A20, H⟩ := H
  replace H : ((spec_l92Triple.f k t194 t195).bind fun bt197 => (some (bt197.1, bt197.2.1, bt197.2.2.1))) = some (r1, r2, r3) := H
  have A2 := Aside0.mk A20
  clear A20
  replace H := Option.bind_eq_some_iff.mp H
  obtain ⟨⟨t197, t198, t199, t200⟩, A30, H⟩ := H
  replace H : (some (t197, t198, t199)) = some (r1, r2, r3) := H
  have A3 := Aside0.mk A30
  clear A30
  simp only [Option.some.injEq, Prod.mk.injEq] at H
  obtain ⟨rfl, rfl, rfl⟩ := H
  go_enter Try.func41, Try.ntmps41
  go_wp2_with (first | ((with_reducible refine gate_callee (f := 46) rfl ?_); refine goesL_ (some 6) rfl rfl Try.func46 (by kernel_rfl) rfl #[.slice A0 l0.length c0] rfl (by (try simp only [List.map_toArray, List.map_cons, List.map_nil]); first | done | rfl | (simp only [List.length_drop, List.length_take]; rfl)) ?_; (with_reducible refine (spec_l6Open.calls _ _ l0 t194 t195 w _ ?side1 ?side2 ?side3 A2.out).mono ?_); (case side1 => repeat (first | (with_reducible first | exact HB.out | apply below_alloc | apply pw_below_drewN | apply below_drew1) | exact HB.out | exact Below.refl _ _)); (case side2 => exact HR0.out); (case side3 => exact HC0.out); rintro e w4 ⟨g196, rfl, hi, hb, hb2⟩; refine ⟨_, rfl, ?_⟩; have n0_ := Aside0.mk (hb); have n1_ := Aside0.mk (hi); try clear HB; have HB := n0_; have HI196 := n1_; clear n0_ n1_; (try clear hb); (try clear hb2); (try clear hk); (try clear hi)) | ((with_reducible refine gate_callee (f := 52) rfl ?_); refine goesL_ (some 7) rfl rfl Try.func52 (by kernel_rfl) rfl #[.pointer (some ⟨g196, 0, none⟩)] rfl (by (try simp only [List.map_toArray, List.map_cons, List.map_nil]); first | done | rfl | (simp only [List.length_drop, List.length_take]; rfl)) ?_; (with_reducible refine (spec_l92Triple.calls k g196 t194 t195 t197 t198 t199 t200 w _ ?side1 ?side2 A3.out).mono ?_); (case side1 => repeat (first | (with_reducible first | exact HI196.out | apply IsS64.alloc | apply IsS64.drewN | apply IsS64.drew | apply IsS64.set_1) | exact HI196.out)); (case side2 => repeat (first | (with_reducible first | exact HB.out | apply below_alloc | apply pw_below_drewN | apply below_drew1 | refine below_set ?_ (IsS64.ge HI196.out)) | exact HB.out)); rintro e w5 ⟨rfl, hi, hb, hk⟩; refine ⟨_, rfl, ?_⟩; have n0_ := Aside0.mk (hb); have n1_ := Aside0.mk (hi); try clear HB; clear HI196; have HB := n0_; have HI196 := n1_; clear n0_ n1_; (try clear hb); (try clear hb2); (try clear hk); (try clear hi)))
  go_ret3
  exact ⟨by first | rfl | (simp [errW_none, errW_some] <;> rfl) | (simp [*, errW_none, errW_some] <;> rfl), by repeat (first | (with_reducible first | exact HB.out | apply below_alloc | apply pw_below_drewN | apply below_drew1 | refine below_set ?_ (IsS64.ge HI196.out)) | exact HB.out)⟩

end Go.Proofs.Ytpmhninmblgjoaa.PFnDepth
