-- PRINTED BY print.sh 35421559b90ae4d0a3588c463048766b98c2df88dd9212a6774a882060cdf62d: not written by this session
import Derived.Test.YtpmhninmblgjoaaPFnTriplex0
import Derived.Test.YtpmhninmblgjoaaPFnTriplex1
import Derived.Test.YtpmhninmblgjoaaPFnTriplex2
namespace Go.Proofs.Ytpmhninmblgjoaa.PFnTriple
open Go.RowKit Go.Proofs.YtpmhninmblgjoaaW.PrintWords Go.Proofs.YtpmhninmblgjoaaW.PrintLast Go.Proofs.YtpmhninmblgjoaaW.PrintMore
attribute [local go_sem] max2_int min2_int max_two min_two max_three min_three max_four min_four   -- for this text's walks alone
set_option linter.unusedVariables false
set_option linter.unusedSimpArgs false

/-! ### spec_l92Triple: function 52 -/
def spec_l92Triple.j0 : Nat → Int → Int → Int → Bool → List Int → Int → Option (Int × Int × Int × Int)
  | 0, _, _, _, _, _, _ => none
  | k + 1, x6, x7, x8, x30, x1000, x1001 => if x30 = true then (some (x6, x7, x8, x1001)) else ((some (([3, 4, 6, 5, (-3)] : List Int) : List Int)).bind fun y143 => ((spec_l6Rd_pick.f k x1000 x1001 5).bind fun bt146 => (if 0 ≤ bt146.1 then (if bt146.1 < (y143.length : Int) then ((some (([4, 3, 8, 12] : List Int) : List Int)).bind fun y149 => ((spec_l6Rd_pick.f k x1000 bt146.2 4).bind fun bt152 => (if 0 ≤ bt152.1 then (if bt152.1 < (y149.length : Int) then ((some (([5, 10, 13] : List Int) : List Int)).bind fun y155 => ((spec_l6Rd_pick.f k x1000 bt152.2 3).bind fun bt158 => (if 0 ≤ bt158.1 then (if bt158.1 < (y155.length : Int) then (some (rd y143 bt146.1, rd y149 bt152.1, rd y155 bt158.1, bt158.2)) else (none)) else (none)))) else (none)) else (none)))) else (none)) else (none))))
def spec_l92Triple.f (k : Nat) (s0_0 : List Int) (s0_1 : Int) : Option (Int × Int × Int × Int) := (spec_l6Rd_pick.f k s0_0 s0_1 12).bind fun bt133 => ((spec_l6Rd_pick.f k s0_0 bt133.2 (wrap64 ((wrap64 (2 + bt133.1)) - 1))).bind fun bt135 => ((spec_TripleMake.f k (wrap64 (2 + bt133.1)) (wrap64 (1 + bt135.1))).bind fun bt137 => (if bt137.2.2.2 = true then ((spec_l6Rd_pick.f k s0_0 bt135.2 12).bind fun bt141 => (spec_l92Triple.j0 k bt137.1 bt137.2.1 bt137.2.2.1 (decide (bt141.1 > 0)) s0_0 bt141.2)) else (spec_l92Triple.j0 k bt137.1 bt137.2.1 bt137.2.2.1 false s0_0 bt135.2))))
theorem spec_l92Triple.mono_l : ∀ k, (∀ y0 y1 y2 y3 y4 y5, LeO (spec_l92Triple.j0 k y0 y1 y2 y3 y4 y5) (spec_l92Triple.j0 (k + 1) y0 y1 y2 y3 y4 y5))
  | 0 => fun _ _ _ _ _ _ r h => by simp [spec_l92Triple.j0] at h
  | k + 1 => by
    have ih0 := spec_l92Triple.mono_l k
    · intro y0 y1 y2 y3 y4 y5
      unfold spec_l92Triple.j0
      repeat' first
      | (with_reducible exact ih0 _ _ _ _ _ _)
      | (with_reducible exact spec_TripleMake.mono _ _ _)
      | (with_reducible exact spec_l6Rd_pick.mono _ _ _ _)
      | (with_reducible exact LeO.refl _)
      | (with_reducible exact LeO.none _)
      | (with_reducible refine LeO.ite ?_ ?_)
      | (with_reducible refine LeO.bind ?_ (fun _ => ?_))
      | exact ih0 _ _ _ _ _ _
      | exact spec_TripleMake.mono _ _ _
      | exact spec_l6Rd_pick.mono _ _ _ _
      | exact LeO.none _
      | refine LeO.ite ?_ ?_
      | refine LeO.bind ?_ (fun _ => ?_)
theorem spec_l92Triple.mono : ∀ a0 a1 k, LeO (spec_l92Triple.f k a0 a1) (spec_l92Triple.f (k + 1) a0 a1) := by
  intro a0 a1 k
  have ih0 := spec_l92Triple.mono_l k
  unfold spec_l92Triple.f
  repeat' first
      | (with_reducible exact ih0 _ _ _ _ _ _)
      | (with_reducible exact spec_TripleMake.mono _ _ _)
      | (with_reducible exact spec_l6Rd_pick.mono _ _ _ _)
      | (with_reducible exact LeO.refl _)
      | (with_reducible exact LeO.none _)
      | (with_reducible refine LeO.ite ?_ ?_)
      | (with_reducible refine LeO.bind ?_ (fun _ => ?_))
      | exact ih0 _ _ _ _ _ _
      | exact spec_TripleMake.mono _ _ _
      | exact spec_l6Rd_pick.mono _ _ _ _
      | exact LeO.none _
      | refine LeO.ite ?_ ?_
      | refine LeO.bind ?_ (fun _ => ?_)
def spec_l92Triple.T5 : Bool × List (List Nat × List Nat) := (true, [([], []), ([], []), ([1], [1]), ([0, 2], [0, 2]), ([3], [3]), ([], []), ([], []), ([6, 2], [6]), ([5, 7], [5, 7]), ([8], [8]), ([], []), ([], []), ([11, 7], [11]), ([10, 12], [10, 12]), ([13], [13]), ([4, 12, 0, 1, 2, 3, 4], [4]), ([9, 15, 0, 1, 2, 3, 4, 5, 6, 7, 8, 9, 15], [9]), ([14, 16, 0, 1, 2, 3, 4, 5, 6, 7, 8, 9, 10, 11, 12, 13, 14, 15, 16], [14])])
def spec_l92Triple.B5 : List Nat := [0, 0, 2, 7, 15, 0, 0, 70, 230, 486, 0, 0, 2246, 7366, 15558, 6367, 39935, 131071]
theorem spec_l92Triple.tab5 : rtab .any (opsOf Try.f52 5) = spec_l92Triple.T5 := by kernel_rfl
theorem spec_l92Triple.bits5 : waitsOk spec_l92Triple.T5.2 spec_l92Triple.B5 = true := by kernel_rfl
set_option maxHeartbeats 8000000 in
set_option maxRecDepth 100000 in
theorem spec_l92Triple.calls (k : Nat) (g : Nat) (s0_0 : List Int) (s0_1 : Int) (r1 : Int) (r2 : Int) (r3 : Int) (r4 : Int) (w0 w : World) (hI : IsS64 w0 w g s0_0 s0_1) (hB : Below w0.heap.size w0 w) (h : spec_l92Triple.f k s0_0 s0_1 = some (r1, r2, r3, r4)) :
    Calls Try.prog 52 #[.pointer (some ⟨g, 0, none⟩)] w fun e w' => e = .returned (.tuple #[.int .i64 r1, .int .i64 r2, .int .i64 r3]) ∧ IsS64 w0 w' g s0_0 r4 ∧ Below w0.heap.size w0 w' ∧ KeepBut w w' g none := by
  have HI0 := Aside0.mk hI
  have HK := Aside0.mk (KeepBut.refl w g none)
  have HL := Aside0.mk hB.size
  clear hI
  have HW0 := Aside0.mk hB.size
  have HB := Aside0.mk hB
  clear hB
  have H : ((spec_l6Rd_pick.f k s0_0 s0_1 12).bind fun bt133 => ((spec_l6Rd_pick.f k s0_0 bt133.2 (wrap64 ((wrap64 (2 + bt133.1)) - 1))).bind fun bt135 => ((spec_TripleMake.f k (wrap64 (2 + bt133.1)) (wrap64 (1 + bt135.1))).bind fun bt137 => (if bt137.2.2.2 = true then ((spec_l6Rd_pick.f k s0_0 bt135.2 12).bind fun bt141 => (spec_l92Triple.j0 k bt137.1 bt137.2.1 bt137.2.2.1 (decide (bt141.1 > 0)) s0_0 bt141.2)) else (spec_l92Triple.j0 k bt137.1 bt137.2.1 bt137.2.2.1 false s0_0 bt135.2))))) = some (r1, r2, r3, r4) := h
  clear h
  replace H := Option.bind_eq_some_iff.mp H
  obtain ⟨⟨t133, t134⟩, A20, H⟩ := H
  replace H : ((spec_l6Rd_pick.f k s0_0 t134 (wrap64 ((wrap64 (2 + t133)) - 1))).bind fun bt135 => ((spec_TripleMake.f k (wrap64 (2 + t133)) (wrap64 (1 + bt135.1))).bind fun bt137 => (if bt137.2.2.2 = true then ((spec_l6Rd_pick.f k s0_0 bt135.2 12).bind fun bt141 => (spec_l92Triple.j0 k bt137.1 bt137.2.1 bt137.2.2.1 (decide (bt141.1 > 0)) s0_0 bt141.2)) else (spec_l92Triple.j0 k bt137.1 bt137.2.1 bt137.2.2.1 false s0_0 bt135.2)))) = some (r1, r2, r3, r4) := H
  have A2 := Aside0.mk A20
  clear A20
  replace H := Option.bind_eq_some_iff.mp H
  obtain ⟨⟨t135, t136⟩, A30, H⟩ := H
  replace H : ((spec_TripleMake.f k (wrap64 (2 + t133)) (wrap64 (1 + t135))).bind fun bt137 => (if bt137.2.2.2 = true then ((spec_l6Rd_pick.f k s0_0 t136 12).bind fun bt141 => (spec_l92Triple.j0 k bt137.1 bt137.2.1 bt137.2.2.1 (decide (bt141.1 > 0)) s0_0 bt141.2)) else (spec_l92Triple.j0 k bt137.1 bt137.2.1 bt137.2.2.1 false s0_0 t136))) = some (r1, r2, r3, r4) := H
  have A3 := Aside0.mk A30
  clear A30
  replace H := Option.bind_eq_some_iff.mp H
  obtain ⟨⟨t137, t138, t139, t140⟩, A40, H⟩ := H
  replace H : (if t140 = true then ((spec_l6Rd_pick.f k s0_0 t136 12).bind fun bt141 => (spec_l92Triple.j0 k t137 t138 t139 (decide (bt141.1 > 0)) s0_0 bt141.2)) else (spec_l92Triple.j0 k t137 t138 t139 false s0_0 t136)) = some (r1, r2, r3, r4) := H
  have A4 := Aside0.mk A40
  clear A40
  have HC5 := Aside0.mk H
  clear H
  go_enter Try.func52, Try.ntmps52
  go_upto_region 3 with (first | ((with_reducible refine gate_callee (f := 49) rfl ?_); refine goesL_ (some 11) rfl rfl Try.func49 (by kernel_rfl) rfl #[.pointer (some ⟨g, 0, none⟩), .int .i64 12] rfl (by (try simp only [List.map_toArray, List.map_cons, List.map_nil]); first | done | rfl | (simp only [List.length_drop, List.length_take]; rfl)) ?_; (with_reducible refine (spec_l6Rd_pick.calls k g s0_0 s0_1 12 t133 t134 w0 _ ?side1 ?side2 A2.out).mono ?_); (case side1 => repeat (first | (with_reducible first | exact HI0.out | apply IsS64.alloc | apply IsS64.drewN | apply IsS64.drew | apply IsS64.set_1) | exact HI0.out)); (case side2 => repeat (first | (with_reducible first | exact HB.out | apply below_alloc | apply pw_below_drewN | apply below_drew1 | refine below_set ?_ (IsS64.ge HI0.out)) | exact HB.out)); rintro e w6 ⟨rfl, hi, hb, hk⟩; refine ⟨_, rfl, ?_⟩; have n0_ := Aside0.mk (KeepBut.trans (by repeat (first | (with_reducible first | exact HK.out | apply KeepBut.set_ | apply keep_drewN | apply keep_drew | apply keep_alloc) | exact HK.out)) hk (.inl rfl)); have n1_ := Aside0.mk (hb); have n2_ := Aside0.mk (hi); clear HK; clear HB; clear HI0; have HK := n0_; have HB := n1_; have HI0 := n2_; clear n0_ n1_ n2_; (try clear hb); (try clear hb2); (try clear hk); (try clear hi)) | ((with_reducible refine gate_callee (f := 49) rfl ?_); refine goesL_ (some 18) rfl rfl Try.func49 (by kernel_rfl) rfl #[.pointer (some ⟨g, 0, none⟩), .int .i64 (wrap64 ((wrap64 (2 + t133)) - 1))] rfl (by (try simp only [List.map_toArray, List.map_cons, List.map_nil]); first | done | rfl | (simp only [List.length_drop, List.length_take]; rfl)) ?_; (with_reducible refine (spec_l6Rd_pick.calls k g s0_0 t134 (wrap64 ((wrap64 (2 + t133)) - 1)) t135 t136 w0 _ ?side1 ?side2 A3.out).mono ?_); (case side1 => repeat (first | (with_reducible first | exact HI0.out | apply IsS64.alloc | apply IsS64.drewN | apply IsS64.drew | apply IsS64.set_1) | exact HI0.out)); (case side2 => repeat (first | (with_reducible first | exact HB.out | apply below_alloc | apply pw_below_drewN | apply below_drew1 | refine below_set ?_ (IsS64.ge HI0.out)) | exact HB.out)); rintro e w7 ⟨rfl, hi, hb, hk⟩; refine ⟨_, rfl, ?_⟩; have n0_ := Aside0.mk (KeepBut.trans (by repeat (first | (with_reducible first | exact HK.out | apply KeepBut.set_ | apply keep_drewN | apply keep_drew | apply keep_alloc) | exact HK.out)) hk (.inl rfl)); have n1_ := Aside0.mk (hb); have n2_ := Aside0.mk (hi); clear HK; clear HB; clear HI0; have HK := n0_; have HB := n1_; have HI0 := n2_; clear n0_ n1_ n2_; (try clear hb); (try clear hb2); (try clear hk); (try clear hi)) | ((with_reducible refine gate_callee (f := 15) rfl ?_); refine goesL_ (some 20) rfl rfl Try.func15 (by kernel_rfl) rfl #[.int .i64 (wrap64 (2 + t133)), .int .i64 (wrap64 (1 + t135))] rfl (by (try simp only [List.map_toArray, List.map_cons, List.map_nil]); first | done | rfl | (simp only [List.length_drop, List.length_take]; rfl)) ?_; (with_reducible refine (spec_TripleMake.calls k (wrap64 (2 + t133)) (wrap64 (1 + t135)) t137 t138 t139 t140 _ A4.out).mono ?_); rintro e w8 ⟨rfl, hb⟩; refine ⟨_, rfl, ?_⟩; have n0_ := Aside0.mk (IsS64.below (by repeat (first | (with_reducible first | exact HI0.out | apply IsS64.alloc | apply IsS64.drewN | apply IsS64.drew | apply IsS64.set_1) | exact HI0.out)) hb); have n1_ := Aside0.mk (KeepBut.trans (by repeat (first | (with_reducible first | exact HK.out | apply KeepBut.set_ | apply keep_drewN | apply keep_drew | apply keep_alloc) | exact HK.out)) (KeepBut.of_below hb g none) (.inl rfl)); have n2_ := Aside0.mk (below_step (by repeat (first | (with_reducible first | exact HB.out | apply below_alloc | apply pw_below_drewN | apply below_drew1 | refine below_set ?_ (IsS64.ge HI0.out)) | exact HB.out)) hb); clear HI0; clear HK; clear HB; have HI0 := n0_; have HK := n1_; have HB := n2_; clear n0_ n1_ n2_; (try clear hb); (try clear hb2); (try clear hk); (try clear hi)))
  (try simp only [Act.put, List.setIfInBounds_toArray, List.set_cons_zero, List.set_cons_succ])
  go_cut [30] (fun v30 wc => ∃ (kq : Nat) (x30_4 : Bool) (x1001_4 : Int), v30 = .bool x30_4 ∧ Aside0 (spec_l92Triple.j0 kq t137 t138 t139 x30_4 s0_0 x1001_4 = some (r1, r2, r3, r4)) ∧ Aside0 (kq ≤ k) ∧ Aside0 (IsS64 w0 wc g s0_0 x1001_4) ∧ Aside0 (KeepBut w wc g none) ∧ Aside0 (Below w0.heap.size w0 wc))
  case first =>
    have H := HC5.out
    clear HC5
    by_cases c9 : t140 = true
    · subst c9
      have H1 : ((spec_l6Rd_pick.f k s0_0 t136 12).bind fun bt141 => (spec_l92Triple.j0 k t137 t138 t139 (decide (bt141.1 > 0)) s0_0 bt141.2)) = some (r1, r2, r3, r4) := by rw [if_pos rfl] at H; exact H
      clear H
      have H := H1
      clear H1
      replace H := Option.bind_eq_some_iff.mp H
      obtain ⟨⟨t141, t142⟩, A100, H⟩ := H
      replace H : (spec_l92Triple.j0 k t137 t138 t139 (decide (t141 > 0)) s0_0 t142) = some (r1, r2, r3, r4) := H
      have A10 := Aside0.mk A100
      clear A100
      have H' := Aside0.mk H
      clear H
      go_wp2_with (first | (go_at_call 49; (with_reducible refine (spec_l6Rd_pick.calls k g s0_0 t136 12 t141 t142 w0 _ ?side1 ?side2 A10.out).mono ?_); (case side1 => repeat (first | (with_reducible first | exact HI0.out | apply IsS64.alloc | apply IsS64.drewN | apply IsS64.drew | apply IsS64.set_1) | exact HI0.out)); (case side2 => repeat (first | (with_reducible first | exact HB.out | apply below_alloc | apply pw_below_drewN | apply below_drew1 | refine below_set ?_ (IsS64.ge HI0.out)) | exact HB.out)); rintro e w11 ⟨rfl, hi, hb, hk⟩; have n0_ := Aside0.mk (KeepBut.trans (by repeat (first | (with_reducible first | exact HK.out | apply KeepBut.set_ | apply keep_drewN | apply keep_drew | apply keep_alloc) | exact HK.out)) hk (.inl rfl)); have n1_ := Aside0.mk (hb); have n2_ := Aside0.mk (hi); clear HK; clear HB; clear HI0; have HK := n0_; have HB := n1_; have HI0 := n2_; clear n0_ n1_ n2_; (try clear hb); (try clear hb2); (try clear hk); (try clear hi)))
      go_meet
      case rel => exact ⟨_, (decide (t141 > 0)), (t142), (by first | rfl | (simp; done) | (simp [*]; done)), H', ⟨by first | omega | exact Nat.le_refl _⟩, ⟨by repeat (first | (with_reducible first | exact HI0.out | apply IsS64.alloc | apply IsS64.drewN | apply IsS64.drew | apply IsS64.set_1) | exact HI0.out)⟩, ⟨by repeat (first | (with_reducible first | exact HK.out | apply KeepBut.set_ | apply keep_drewN | apply keep_drew | apply keep_alloc) | exact HK.out)⟩, ⟨by repeat (first | (with_reducible first | exact HB.out | apply below_alloc | apply pw_below_drewN | apply below_drew1 | refine below_set ?_ (IsS64.ge HI0.out)) | exact HB.out)⟩⟩
    · replace c9 := Bool.eq_false_iff.mpr c9
      subst c9
      have H1 : (spec_l92Triple.j0 k t137 t138 t139 false s0_0 t136) = some (r1, r2, r3, r4) := by rw [if_neg (show ¬ (false = true) by decide)] at H; exact H
      clear H
      have H := H1
      clear H1
      have H' := Aside0.mk H
      clear H
      go_wp2
      go_meet
      case rel => exact ⟨_, (false), (t136), (by first | rfl | (simp; done) | (simp [*]; done)), H', ⟨by first | omega | exact Nat.le_refl _⟩, ⟨by repeat (first | (with_reducible first | exact HI0.out | apply IsS64.alloc | apply IsS64.drewN | apply IsS64.drew | apply IsS64.set_1) | exact HI0.out)⟩, ⟨by repeat (first | (with_reducible first | exact HK.out | apply KeepBut.set_ | apply keep_drewN | apply keep_drew | apply keep_alloc) | exact HK.out)⟩, ⟨by repeat (first | (with_reducible first | exact HB.out | apply below_alloc | apply pw_below_drewN | apply below_drew1 | refine below_set ?_ (IsS64.ge HI0.out)) | exact HB.out)⟩⟩
  case rest =>
    clear HC5
    try clear c1
    try clear p2
    try clear c4
    try clear c5
    try clear p6
    try clear c9
    obtain ⟨kq, x30_4, x1001_4, rfl, HA, HJ4, HI0, HK, HB⟩ := hcut
    cases kq with
    | zero => exact absurd HA.out (by simp [spec_l92Triple.j0])
    | succ kj4 =>
      have H := HA.out
      clear HA
      simp only [spec_l92Triple.j0] at H
      by_cases c12 : x30_4 = true
      · subst c12
        have H1 : (some (t137, t138, t139, x1001_4)) = some (r1, r2, r3, r4) := by rw [if_pos rfl] at H; exact H
        clear H
        have H := H1
        clear H1
        simp only [Option.some.injEq, Prod.mk.injEq] at H
        obtain ⟨rfl, rfl, rfl, rfl⟩ := H
        go_wp2
        go_ret3
        exact ⟨by first | rfl | (simp [errW_none, errW_some] <;> rfl) | (simp [*, errW_none, errW_some] <;> rfl), by repeat (first | (with_reducible first | exact HI0.out | apply IsS64.alloc | apply IsS64.drewN | apply IsS64.drew | apply IsS64.set_1) | exact HI0.out), by repeat (first | (with_reducible first | exact HB.out | apply below_alloc | apply pw_below_drewN | apply below_drew1 | refine below_set ?_ (IsS64.ge HI0.out)) | exact HB.out), by repeat (first | (with_reducible first | exact HK.out | apply KeepBut.set_ | apply keep_drewN | apply keep_drew | apply keep_alloc) | exact HK.out)⟩
      · replace c12 := Bool.eq_false_iff.mpr c12
        subst c12
        have H1 : ((some (([3, 4, 6, 5, (-3)] : List Int) : List Int)).bind fun y143 => ((spec_l6Rd_pick.f kj4 s0_0 x1001_4 5).bind fun bt146 => (if 0 ≤ bt146.1 then (if bt146.1 < (y143.length : Int) then ((some (([4, 3, 8, 12] : List Int) : List Int)).bind fun y149 => ((spec_l6Rd_pick.f kj4 s0_0 bt146.2 4).bind fun bt152 => (if 0 ≤ bt152.1 then (if bt152.1 < (y149.length : Int) then ((some (([5, 10, 13] : List Int) : List Int)).bind fun y155 => ((spec_l6Rd_pick.f kj4 s0_0 bt152.2 3).bind fun bt158 => (if 0 ≤ bt158.1 then (if bt158.1 < (y155.length : Int) then (some (rd y143 bt146.1, rd y149 bt152.1, rd y155 bt158.1, bt158.2)) else (none)) else (none)))) else (none)) else (none)))) else (none)) else (none)))) = some (r1, r2, r3, r4) := by rw [if_neg (show ¬ (false = true) by decide)] at H; exact H
        clear H
        have H := H1
        clear H1
        obtain ⟨y143, hy143⟩ : ∃ y_ : List Int, y_ = (([3, 4, 6, 5, (-3)] : List Int)) := ⟨_, rfl⟩
        replace H : ((spec_l6Rd_pick.f kj4 s0_0 x1001_4 5).bind fun bt146 => (if 0 ≤ bt146.1 then (if bt146.1 < (y143.length : Int) then ((some (([4, 3, 8, 12] : List Int) : List Int)).bind fun y149 => ((spec_l6Rd_pick.f kj4 s0_0 bt146.2 4).bind fun bt152 => (if 0 ≤ bt152.1 then (if bt152.1 < (y149.length : Int) then ((some (([5, 10, 13] : List Int) : List Int)).bind fun y155 => ((spec_l6Rd_pick.f kj4 s0_0 bt152.2 3).bind fun bt158 => (if 0 ≤ bt158.1 then (if bt158.1 < (y155.length : Int) then (some (rd y143 bt146.1, rd y149 bt152.1, rd y155 bt158.1, bt158.2)) else (none)) else (none)))) else (none)) else (none)))) else (none)) else (none))) = some (r1, r2, r3, r4) := by first | (rw [hy143]; with_reducible exact H) | (have H2_ := (Option.bind_some _ _).symm.trans H; rw [hy143]; with_reducible exact H2_) | (have H2_ := (Option.bind_some _ _).symm.trans H; with_reducible exact H2_) | with_reducible exact H | (rw [hy143]; exact H) | exact H
        have Ny143 := Aside0.mk hy143
        clear hy143
        replace H := Option.bind_eq_some_iff.mp H
        obtain ⟨⟨t146, t147⟩, A130, H⟩ := H
        replace H : (if 0 ≤ t146 then (if t146 < (y143.length : Int) then ((some (([4, 3, 8, 12] : List Int) : List Int)).bind fun y149 => ((spec_l6Rd_pick.f kj4 s0_0 t147 4).bind fun bt152 => (if 0 ≤ bt152.1 then (if bt152.1 < (y149.length : Int) then ((some (([5, 10, 13] : List Int) : List Int)).bind fun y155 => ((spec_l6Rd_pick.f kj4 s0_0 bt152.2 3).bind fun bt158 => (if 0 ≤ bt158.1 then (if bt158.1 < (y155.length : Int) then (some (rd y143 t146, rd y149 bt152.1, rd y155 bt158.1, bt158.2)) else (none)) else (none)))) else (none)) else (none)))) else (none)) else (none)) = some (r1, r2, r3, r4) := H
        have A13 := Aside0.mk A130
        clear A130
        by_cases c14 : 0 ≤ t146
        · rw [if_pos c14] at H
          have c14b0 : decide (0 ≤ t146) = true := decide_eq_true c14
          clear c14
          by_cases c15 : t146 < (y143.length : Int)
          · rw [if_pos c15] at H
            have c15b0 : decide (t146 < (y143.length : Int)) = true := decide_eq_true c15
            clear c15
            obtain ⟨y149, hy149⟩ : ∃ y_ : List Int, y_ = (([4, 3, 8, 12] : List Int)) := ⟨_, rfl⟩
            replace H : ((spec_l6Rd_pick.f kj4 s0_0 t147 4).bind fun bt152 => (if 0 ≤ bt152.1 then (if bt152.1 < (y149.length : Int) then ((some (([5, 10, 13] : List Int) : List Int)).bind fun y155 => ((spec_l6Rd_pick.f kj4 s0_0 bt152.2 3).bind fun bt158 => (if 0 ≤ bt158.1 then (if bt158.1 < (y155.length : Int) then (some (rd y143 t146, rd y149 bt152.1, rd y155 bt158.1, bt158.2)) else (none)) else (none)))) else (none)) else (none))) = some (r1, r2, r3, r4) := by first | (rw [hy149]; with_reducible exact H) | (have H2_ := (Option.bind_some _ _).symm.trans H; rw [hy149]; with_reducible exact H2_) | (have H2_ := (Option.bind_some _ _).symm.trans H; with_reducible exact H2_) | with_reducible exact H | (rw [hy149]; exact H) | exact H
            have Ny149 := Aside0.mk hy149
            clear hy149
            replace H := Option.bind_eq_some_iff.mp H
            obtain ⟨⟨t152, t153⟩, A160, H⟩ := H
            replace H : (if 0 ≤ t152 then (if t152 < (y149.length : Int) then ((some (([5, 10, 13] : List Int) : List Int)).bind fun y155 => ((spec_l6Rd_pick.f kj4 s0_0 t153 3).bind fun bt158 => (if 0 ≤ bt158.1 then (if bt158.1 < (y155.length : Int) then (some (rd y143 t146, rd y149 t152, rd y155 bt158.1, bt158.2)) else (none)) else (none)))) else (none)) else (none)) = some (r1, r2, r3, r4) := H
            have A16 := Aside0.mk A160
            clear A160
            by_cases c17 : 0 ≤ t152
            · rw [if_pos c17] at H
              have c17b0 : decide (0 ≤ t152) = true := decide_eq_true c17
              clear c17
              by_cases c18 : t152 < (y149.length : Int)
              · rw [if_pos c18] at H
                have c18b0 : decide (t152 < (y149.length : Int)) = true := decide_eq_true c18
                clear c18
                obtain ⟨y155, hy155⟩ : ∃ y_ : List Int, y_ = (([5, 10, 13] : List Int)) := ⟨_, rfl⟩
                replace H : ((spec_l6Rd_pick.f kj4 s0_0 t153 3).bind fun bt158 => (if 0 ≤ bt158.1 then (if bt158.1 < (y155.length : Int) then (some (rd y143 t146, rd y149 t152, rd y155 bt158.1, bt158.2)) else (none)) else (none))) = some (r1, r2, r3, r4) := by first | (rw [hy155]; with_reducible exact H) | (have H2_ := (Option.bind_some _ _).symm.trans H; rw [hy155]; with_reducible exact H2_) | (have H2_ := (Option.bind_some _ _).symm.trans H; with_reducible exact H2_) | with_reducible exact H | (rw [hy155]; exact H) | exact H
                have Ny155 := Aside0.mk hy155
                clear hy155
                replace H := Option.bind_eq_some_iff.mp H
                obtain ⟨⟨t158, t159⟩, A190, H⟩ := H
                replace H : (if 0 ≤ t158 then (if t158 < (y155.length : Int) then (some (rd y143 t146, rd y149 t152, rd y155 t158, t159)) else (none)) else (none)) = some (r1, r2, r3, r4) := H
                have A19 := Aside0.mk A190
                clear A190
                by_cases c20 : 0 ≤ t158
                · rw [if_pos c20] at H
                  have c20b0 : decide (0 ≤ t158) = true := decide_eq_true c20
                  clear c20
                  by_cases c21 : t158 < (y155.length : Int)
                  · rw [if_pos c21] at H
                    have c21b0 : decide (t158 < (y155.length : Int)) = true := decide_eq_true c21
                    clear c21
                    simp only [Option.some.injEq, Prod.mk.injEq] at H
                    obtain ⟨rfl, rfl, rfl, rfl⟩ := H
                    try go_wp2
                    have pi148 : (0 ≤ (t146 : Int)) = True := eq_true (of_decide_eq_true (by first | (with_reducible assumption) | assumption))
                    have qi148 : (t146 < (y143.length : Int)) = True := eq_true (of_decide_eq_true (by first | (with_reducible assumption) | assumption))
                    have pi154 : (0 ≤ (t152 : Int)) = True := eq_true (of_decide_eq_true (by first | (with_reducible assumption) | assumption))
                    have qi154 : (t152 < (y149.length : Int)) = True := eq_true (of_decide_eq_true (by first | (with_reducible assumption) | assumption))
                    have pi160 : (0 ≤ (t158 : Int)) = True := eq_true (of_decide_eq_true (by first | (with_reducible assumption) | assumption))
                    have qi160 : (t158 < (y155.length : Int)) = True := eq_true (of_decide_eq_true (by first | (with_reducible assumption) | assumption))
                    have n0_ := Aside0.mk (IsS64.drew HI0.out)
                    have n1_ := Aside0.mk (keep_drew HK.out)
                    have n2_ := Aside0.mk (below_drew1 HB.out)
                    clear HI0
                    clear HK
                    clear HB
                    have HI0 := n0_
                    have HK := n1_
                    have HB := n2_
                    clear n0_ n1_ n2_
                    refine start_ (n := 18) (S := fun w' => True) (ds := []) #[false, false, false, false, false, false, false, false, false, false, false, false, false, false, false, false, false, false] (by kernel_rfl) rfl rfl trivial (fun hHeld => ?_); refine with_tabW spec_l92Triple.tab5 spec_l92Triple.bits5 (fun HT_ HW_ => ?_)
                    generalize wc.drew = w22 at HI0 HK HB hHeld ⊢
                    refine pure_ (i := 1) (N := some 35) (v := ?_) (a' := ?_) #[false, true, false, false, false, false, false, false, false, false, false, false, false, false, false, false, false, false] rfl rfl (any_of HT_.out (by kernel_rfl)) (fun _ _ _ h => h) (Or.inl ⟨by rfl, ?_⟩) ?_ ?_
                    rotate_left
                    · intro w'
                      go_simp
                      with_reducible rfl
                    rotate_left
                    · simp only [Act.put, List.setIfInBounds_toArray, List.set_cons_zero, List.set_cons_succ, i64_w, i32_w]
                      rfl
                    refine pure_ (i := 6) (N := some 40) (v := ?_) (a' := ?_) #[false, true, false, false, false, false, true, false, false, false, false, false, false, false, false, false, false, false] rfl rfl (any_of HT_.out (by kernel_rfl)) (fun _ _ _ h => h) (Or.inl ⟨by rfl, ?_⟩) ?_ ?_
                    rotate_left
                    · intro w'
                      go_simp
                      with_reducible rfl
                    rotate_left
                    · simp only [Act.put, List.setIfInBounds_toArray, List.set_cons_zero, List.set_cons_succ, i64_w, i32_w]
                      rfl
                    refine pure_ (i := 11) (N := some 45) (v := ?_) (a' := ?_) #[false, true, false, false, false, false, true, false, false, false, false, true, false, false, false, false, false, false] rfl rfl (any_of HT_.out (by kernel_rfl)) (fun _ _ _ h => h) (Or.inl ⟨by rfl, ?_⟩) ?_ ?_
                    rotate_left
                    · intro w'
                      go_simp
                      with_reducible rfl
                    rotate_left
                    · simp only [Act.put, List.setIfInBounds_toArray, List.set_cons_zero, List.set_cons_succ, i64_w, i32_w]
                      rfl
                    refine inv_at [0, 2, 3, 4, 5, 7, 8, 9, 10, 12, 13, 14, 15, 16, 17] (fun a0_ b a w' => ∃ (v144 : Value) (adz_v144 : Addr) (v150 : Value) (adz_v150 : Addr) (v156 : Value) (adz_v156 : Addr) (m3_ : Value) (m8_ : Value) (m13_ : Value), a = putSel a0_ b [(0, 34, v144), (2, 36, .int .i64 t146), (3, 37, m3_), (4, 38, .int .i64 (rd y143 t146)), (5, 39, v150), (7, 41, .int .i64 t152), (8, 42, m8_), (9, 43, .int .i64 (rd y149 t152)), (10, 44, v156), (12, 46, .int .i64 t158), (13, 47, m13_), (14, 48, .int .i64 (rd y155 t158)), (15, 2, .int .i64 (rd y143 t146)), (16, 3, .int .i64 (rd y149 t152)), (17, 4, .int .i64 (rd y155 t158))] ∧ (b 2 = false → IsS64 w0 w' g s0_0 x1001_4) ∧ (KeepBut w w' g none) ∧ (Below w0.heap.size w0 w') ∧ (b 0 = true → Kd.R (Kd.int .i64) 3 w' w.heap.size (fun _ => True) v144 y143) ∧ (b 0 = true → ∃ c_, (v144 : Value) = .slice (some adz_v144) y143.length c_) ∧ (b 2 = true → b 7 = false → IsS64 w0 w' g s0_0 t147) ∧ (b 5 = true → Kd.R (Kd.int .i64) 3 w' w.heap.size (fun _ => True) v150 y149) ∧ (b 5 = true → ∃ c_, (v150 : Value) = .slice (some adz_v150) y149.length c_) ∧ (b 7 = true → b 12 = false → IsS64 w0 w' g s0_0 t153) ∧ (b 10 = true → Kd.R (Kd.int .i64) 3 w' w.heap.size (fun _ => True) v156 y155) ∧ (b 10 = true → ∃ c_, (v156 : Value) = .slice (some adz_v156) y155.length c_) ∧ (b 12 = true → IsS64 w0 w' g s0_0 t159) ∧ (b 3 = true → (m3_ : Value) = .pointer (some (adz_v144.add (t146).toNat))) ∧ (b 8 = true → (m8_ : Value) = .pointer (some (adz_v150.add (t152).toNat))) ∧ (b 13 = true → (m13_ : Value) = .pointer (some (adz_v156.add (t158).toNat)))) HT_.out HW_.out (by kernel_rfl) (by kernel_rfl) ?_ ?_ ?_
                    · exact ⟨.bool false, ⟨0, 0, none⟩, .bool false, ⟨0, 0, none⟩, .bool false, ⟨0, 0, none⟩, .bool false, .bool false, .bool false, by simp only [putSel, Bool.false_eq_true, if_false], fun _ => HI0.out, HK.out, HB.out, fun h_ => absurd h_ (by decide), fun h_ => absurd h_ (by decide), fun h_ => absurd h_ (by decide), fun h_ => absurd h_ (by decide), fun h_ => absurd h_ (by decide), fun h_ => absurd h_ (by decide), fun h_ => absurd h_ (by decide), fun h_ => absurd h_ (by decide), fun h_ => absurd h_ (by decide), fun h_ => absurd h_ (by decide), fun h_ => absurd h_ (by decide), fun h_ => absurd h_ (by decide)⟩
                    · skip
                      clear HB HI0 HK
                      refine steps_cons ?_ ?_
                      · rintro b a w' ⟨v144, adz_v144, v150, adz_v150, v156, adz_v156, m3_, m8_, m13_, ha, Q_HI0, Q_HK, Q_HB, Q_HO145, Q_HA_HO145, Q_HI0_e2, Q_HO151, Q_HA_HO151, Q_HI0_e7, Q_HO157, Q_HA_HO157, Q_HI0_e12, Q_X3_, Q_X8_, Q_X13_⟩ hb_ hon hoff
                        refine ⟨_, rfl, fun K hK => ?_⟩
                        replace ha := Aside0.mk ha
                        have HK := Aside0.mk Q_HK
                        have HB := Aside0.mk Q_HB
                        refine Kd.R_lit_step (Kd.int .i64) _ 3 ?hg (N := 34) ?hd (xs := ([3, 4, 6, 5, (-3)] : List Int)) (inner := [.int .i64 3, .int .i64 4, .int .i64 6, .int .i64 5, .int .i64 (-3)]) (ok := fun _ => True) (okp := fun _ => True) ?hr ?hp (fun _ hk => hk) trivial (Below.refl _ _) (Nat.le_refl _) (by simp) ?_; (case hd => rfl); (case hg => rfl); (case hr => first | (go_simp; done) | (go_simp; rfl)); (case hp => exact (Reps.one (show Kd.M (Kd.int .i64) _ _ _ 3 [.int .i64 3] from rfl) (Reps.one (show Kd.M (Kd.int .i64) _ _ _ 4 [.int .i64 4] from rfl) (Reps.one (show Kd.M (Kd.int .i64) _ _ _ 6 [.int .i64 6] from rfl) (Reps.one (show Kd.M (Kd.int .i64) _ _ _ 5 [.int .i64 5] from rfl) (Reps.one (show Kd.M (Kd.int .i64) _ _ _ (-3) [.int .i64 (-3)] from rfl) (Reps.none _ _)))))))
                        intro v144 w23 ho24 hb hg_ hnew_
                        clear hg_ hnew_
                        (first | rw [← Ny143.out] at ho24 | (simp only [Int.reduceToNat] at ho24; rw [← Ny143.out] at ho24))
                        have n0_ := Aside0.mk (Kd.R_lower ho24 (keep_size (w := w) (g := g) (row := none) (by repeat (first | (with_reducible first | exact HK.out | apply KeepBut.set_ | apply keep_drewN | apply keep_drew | apply keep_alloc) | exact HK.out))))
                        have n2_ := Aside0.mk (KeepBut.trans (by repeat (first | (with_reducible first | exact HK.out | apply KeepBut.set_ | apply keep_drewN | apply keep_drew | apply keep_alloc) | exact HK.out)) (KeepBut.of_below hb g none) (.inl rfl))
                        have n3_ := Aside0.mk (below_step (by repeat (first | (with_reducible first | exact HB.out | apply below_alloc | apply pw_below_drewN | apply below_drew1) | exact HB.out)) hb)
                        have z_HI0 := fun (h0_ : b 2 = false) => (show IsS64 w0 w23 g s0_0 x1001_4 from by first | exact (IsS64.below (by repeat (first | (with_reducible first | exact (Q_HI0 h0_) | apply IsS64.alloc | apply IsS64.drewN | apply IsS64.drew | apply IsS64.set_1) | exact (Q_HI0 h0_))) hb))
                        have z_HI0_e2 := fun (h0_ : b 2 = true) (h1_ : b 7 = false) => (show IsS64 w0 w23 g s0_0 t147 from by first | exact (IsS64.below (by repeat (first | (with_reducible first | exact (Q_HI0_e2 h0_ h1_) | apply IsS64.alloc | apply IsS64.drewN | apply IsS64.drew | apply IsS64.set_1) | exact (Q_HI0_e2 h0_ h1_))) hb))
                        have z_HO151 := fun (h0_ : b 5 = true) => (show Kd.R (Kd.int .i64) 3 w23 w.heap.size (fun _ => True) v150 y149 from by first | exact (Kd.R_elder' (by (with_reducible repeat (first | apply Kd.R_alloc | apply Kd.R_drewN | apply Kd.R_drew)); exact (Q_HO151 h0_)) (Kd.R_base ho24) hb) | exact Kd.R_mono (Kd.R_elder' (by (with_reducible repeat (first | apply Kd.R_alloc | apply Kd.R_drewN | apply Kd.R_drew)); exact (Q_HO151 h0_)) (Kd.R_base ho24) hb) (fun _ h_ => by first | trivial | exact h_ | exact h_.1))
                        have z_HI0_e7 := fun (h0_ : b 7 = true) (h1_ : b 12 = false) => (show IsS64 w0 w23 g s0_0 t153 from by first | exact (IsS64.below (by repeat (first | (with_reducible first | exact (Q_HI0_e7 h0_ h1_) | apply IsS64.alloc | apply IsS64.drewN | apply IsS64.drew | apply IsS64.set_1) | exact (Q_HI0_e7 h0_ h1_))) hb))
                        have z_HO157 := fun (h0_ : b 10 = true) => (show Kd.R (Kd.int .i64) 3 w23 w.heap.size (fun _ => True) v156 y155 from by first | exact (Kd.R_elder' (by (with_reducible repeat (first | apply Kd.R_alloc | apply Kd.R_drewN | apply Kd.R_drew)); exact (Q_HO157 h0_)) (Kd.R_base ho24) hb) | exact Kd.R_mono (Kd.R_elder' (by (with_reducible repeat (first | apply Kd.R_alloc | apply Kd.R_drewN | apply Kd.R_drew)); exact (Q_HO157 h0_)) (Kd.R_base ho24) hb) (fun _ h_ => by first | trivial | exact h_ | exact h_.1))
                        have z_HI0_e12 := fun (h0_ : b 12 = true) => (show IsS64 w0 w23 g s0_0 t159 from by first | exact (IsS64.below (by repeat (first | (with_reducible first | exact (Q_HI0_e12 h0_) | apply IsS64.alloc | apply IsS64.drewN | apply IsS64.drew | apply IsS64.set_1) | exact (Q_HI0_e12 h0_))) hb))
                        clear HK
                        clear HB
                        have HO145 := n0_
                        have HK := n2_
                        have HB := n3_
                        clear n0_ n2_ n3_
                        clear hb ho24
                        obtain ⟨Ao25, co25, eo25⟩ := Kd.R_slice HO145.out
                        subst eo25
                        obtain ⟨ado25, fo25, _⟩ := Kd.at_int (Kd.R_reads' HO145.out).2.2 0 (by decide) (by rw [Ny143.out]; simp)
                        cases fo25
                        refine hK.out _ _ ⟨.slice (some ado25) y143.length co25, ado25, v150, adz_v150, v156, adz_v156, m3_, m8_, m13_, (by rw [ha.out]; exact putSel_upk 0 hb_ rfl rfl rfl), z_HI0, (by repeat (first | (with_reducible first | exact HK.out | apply KeepBut.set_ | apply keep_drewN | apply keep_drew | apply keep_alloc) | exact HK.out)), (by repeat (first | (with_reducible first | exact HB.out | apply below_alloc | apply pw_below_drewN | apply below_drew1) | exact HB.out)), fun _ => (by (with_reducible repeat (first | apply Kd.R_alloc | apply Kd.R_drewN | apply Kd.R_drew)); exact HO145.out), fun _ => ⟨_, rfl⟩, z_HI0_e2, z_HO151, Q_HA_HO151, z_HI0_e7, z_HO157, Q_HA_HO157, z_HI0_e12, fun h0_ => absurd ((hoff 3 (by kernel_rfl)).symm.trans h0_) (by decide), Q_X8_, Q_X13_⟩
                      refine steps_cons ?_ ?_
                      · rintro b a w' ⟨v144, adz_v144, v150, adz_v150, v156, adz_v156, m3_, m8_, m13_, ha, Q_HI0, Q_HK, Q_HB, Q_HO145, Q_HA_HO145, Q_HI0_e2, Q_HO151, Q_HA_HO151, Q_HI0_e7, Q_HO157, Q_HA_HO157, Q_HI0_e12, Q_X3_, Q_X8_, Q_X13_⟩ hb_ hon hoff
                        refine ⟨_, rfl, fun K hK => ?_⟩
                        have e35 : a.tmps[35]? = some (.pointer (some ⟨g, 0, none⟩)) := by rw [ha]; exact (putSel_off rfl).trans rfl
                        replace ha := Aside0.mk ha
                        have HI0 := Aside0.mk (Q_HI0 hb_)
                        have HK := Aside0.mk Q_HK
                        have HB := Aside0.mk Q_HB
                        refine goes_ Try.func49 (by kernel_rfl) rfl #[.pointer (some ⟨g, 0, none⟩), .int .i64 5] (by rfl) rfl rfl (by first | (simp only [List.map_toArray, List.map_cons, List.map_nil, Act.eval, Array.getD_eq_getD_getElem?, Option.getD_some, e35]; done) | (simp only [List.map_toArray, List.map_cons, List.map_nil, Act.eval, Array.getD_eq_getD_getElem?, Option.getD_some, e35]; rfl)) ?_
                        with_reducible refine (spec_l6Rd_pick.calls kj4 g s0_0 x1001_4 5 t146 t147 w0 _ ?side1 ?side2 A13.out).mono ?_
                        (case side1 => repeat (first | (with_reducible first | exact HI0.out | apply IsS64.alloc | apply IsS64.drewN | apply IsS64.drew | apply IsS64.set_1) | exact HI0.out))
                        (case side2 => repeat (first | (with_reducible first | exact HB.out | apply below_alloc | apply pw_below_drewN | apply below_drew1 | refine below_set ?_ (IsS64.ge HI0.out)) | exact HB.out))
                        rintro e w23 ⟨rfl, hi, hb, hk⟩
                        refine ⟨_, rfl, ?_⟩
                        have n0_ := Aside0.mk (KeepBut.trans (by repeat (first | (with_reducible first | exact HK.out | apply KeepBut.set_ | apply keep_drewN | apply keep_drew | apply keep_alloc) | exact HK.out)) hk (.inl rfl))
                        have n1_ := Aside0.mk (hb)
                        have n2_ := Aside0.mk (hi)
                        have z_HO145 := fun (h0_ : b 0 = true) => (show Kd.R (Kd.int .i64) 3 w23 w.heap.size (fun _ => True) v144 y143 from by first | exact (Kd.R_mono (Kd.R_keep (IsS64.apart (show IsS64 w0 _ g s0_0 x1001_4 from by repeat (first | (with_reducible first | exact HI0.out | apply IsS64.alloc | apply IsS64.drewN | apply IsS64.drew | apply IsS64.set_1) | exact HI0.out)) (by (with_reducible repeat (first | apply Kd.R_alloc | apply Kd.R_drewN | apply Kd.R_drew)); exact (Q_HO145 h0_)) (by decide)) hk (fun _ h => h.2)) (fun _ h => h.1)) | exact Kd.R_mono (Kd.R_mono (Kd.R_keep (IsS64.apart (show IsS64 w0 _ g s0_0 x1001_4 from by repeat (first | (with_reducible first | exact HI0.out | apply IsS64.alloc | apply IsS64.drewN | apply IsS64.drew | apply IsS64.set_1) | exact HI0.out)) (by (with_reducible repeat (first | apply Kd.R_alloc | apply Kd.R_drewN | apply Kd.R_drew)); exact (Q_HO145 h0_)) (by decide)) hk (fun _ h => h.2)) (fun _ h => h.1)) (fun _ h_ => by first | trivial | exact h_ | exact h_.1))
                        have z_HO151 := fun (h0_ : b 5 = true) => (show Kd.R (Kd.int .i64) 3 w23 w.heap.size (fun _ => True) v150 y149 from by first | exact (Kd.R_mono (Kd.R_keep (IsS64.apart (show IsS64 w0 _ g s0_0 x1001_4 from by repeat (first | (with_reducible first | exact HI0.out | apply IsS64.alloc | apply IsS64.drewN | apply IsS64.drew | apply IsS64.set_1) | exact HI0.out)) (by (with_reducible repeat (first | apply Kd.R_alloc | apply Kd.R_drewN | apply Kd.R_drew)); exact (Q_HO151 h0_)) (by decide)) hk (fun _ h => h.2)) (fun _ h => h.1)) | exact Kd.R_mono (Kd.R_mono (Kd.R_keep (IsS64.apart (show IsS64 w0 _ g s0_0 x1001_4 from by repeat (first | (with_reducible first | exact HI0.out | apply IsS64.alloc | apply IsS64.drewN | apply IsS64.drew | apply IsS64.set_1) | exact HI0.out)) (by (with_reducible repeat (first | apply Kd.R_alloc | apply Kd.R_drewN | apply Kd.R_drew)); exact (Q_HO151 h0_)) (by decide)) hk (fun _ h => h.2)) (fun _ h => h.1)) (fun _ h_ => by first | trivial | exact h_ | exact h_.1))
                        have z_HO157 := fun (h0_ : b 10 = true) => (show Kd.R (Kd.int .i64) 3 w23 w.heap.size (fun _ => True) v156 y155 from by first | exact (Kd.R_mono (Kd.R_keep (IsS64.apart (show IsS64 w0 _ g s0_0 x1001_4 from by repeat (first | (with_reducible first | exact HI0.out | apply IsS64.alloc | apply IsS64.drewN | apply IsS64.drew | apply IsS64.set_1) | exact HI0.out)) (by (with_reducible repeat (first | apply Kd.R_alloc | apply Kd.R_drewN | apply Kd.R_drew)); exact (Q_HO157 h0_)) (by decide)) hk (fun _ h => h.2)) (fun _ h => h.1)) | exact Kd.R_mono (Kd.R_mono (Kd.R_keep (IsS64.apart (show IsS64 w0 _ g s0_0 x1001_4 from by repeat (first | (with_reducible first | exact HI0.out | apply IsS64.alloc | apply IsS64.drewN | apply IsS64.drew | apply IsS64.set_1) | exact HI0.out)) (by (with_reducible repeat (first | apply Kd.R_alloc | apply Kd.R_drewN | apply Kd.R_drew)); exact (Q_HO157 h0_)) (by decide)) hk (fun _ h => h.2)) (fun _ h => h.1)) (fun _ h_ => by first | trivial | exact h_ | exact h_.1))
                        clear HK
                        clear HB
                        clear HI0
                        have HK := n0_
                        have HB := n1_
                        have HI0 := n2_
                        clear n0_ n1_ n2_
                        (try clear hb)
                        (try clear hb2)
                        (try clear hk)
                        (try clear hi)
                        refine hK.out _ _ ⟨v144, adz_v144, v150, adz_v150, v156, adz_v156, m3_, m8_, m13_, (by rw [ha.out]; exact putSel_upk 1 hb_ rfl rfl rfl), fun h0_ => absurd ((up_self b 2).symm.trans h0_) (by decide), (by repeat (first | (with_reducible first | exact HK.out | apply KeepBut.set_ | apply keep_drewN | apply keep_drew | apply keep_alloc) | exact HK.out)), (by repeat (first | (with_reducible first | exact HB.out | apply below_alloc | apply pw_below_drewN | apply below_drew1 | refine below_set ?_ (IsS64.ge HI0.out)) | exact HB.out)), z_HO145, Q_HA_HO145, fun _ _ => (by repeat (first | (with_reducible first | exact HI0.out | apply IsS64.alloc | apply IsS64.drewN | apply IsS64.drew | apply IsS64.set_1) | exact HI0.out)), z_HO151, Q_HA_HO151, fun h0_ _ => absurd ((hoff 7 (by kernel_rfl)).symm.trans h0_) (by decide), z_HO157, Q_HA_HO157, fun h0_ => absurd ((hoff 12 (by kernel_rfl)).symm.trans h0_) (by decide), fun h0_ => absurd ((hoff 3 (by kernel_rfl)).symm.trans h0_) (by decide), fun h0_ => absurd ((hoff 8 (by kernel_rfl)).symm.trans h0_) (by decide), fun h0_ => absurd ((hoff 13 (by kernel_rfl)).symm.trans h0_) (by decide)⟩
                      refine steps_cons ?_ ?_
                      · rintro b a w' ⟨v144, adz_v144, v150, adz_v150, v156, adz_v156, m3_, m8_, m13_, ha, Q_HI0, Q_HK, Q_HB, Q_HO145, Q_HA_HO145, Q_HI0_e2, Q_HO151, Q_HA_HO151, Q_HI0_e7, Q_HO157, Q_HA_HO157, Q_HI0_e12, Q_X3_, Q_X8_, Q_X13_⟩ hb_ hon hoff
                        refine ⟨_, rfl, fun K hK => ?_⟩
                        have e34 : a.tmps[34]? = some (v144) := by rw [ha]; exact putSel_on (e := (0, 34, v144)) 0 rfl rfl (hon 0 (by kernel_rfl)) rfl
                        have e36 : a.tmps[36]? = some (.int .i64 t146) := by rw [ha]; exact putSel_on (e := (2, 36, .int .i64 t146)) 1 rfl rfl (hon 2 (by kernel_rfl)) rfl
                        replace ha := Aside0.mk ha
                        have HK := Aside0.mk Q_HK
                        have HB := Aside0.mk Q_HB
                        have HO145 := Aside0.mk (Q_HO145 (hon 0 (by kernel_rfl)))
                        have HA_HO145 := Aside0.mk (Q_HA_HO145 (hon 0 (by kernel_rfl)))
                        obtain ⟨c_, hv_⟩ := HA_HO145.out
                        rw [hv_] at e34
                        refine value_ (w1 := w') (v := .pointer (some (adz_v144.add (t146).toNat))) (by rfl) rfl ?_ ?_
                        · go_simp
                          (try simp only [i64_w])
                          try rfl
                        refine hK.out _ _ ⟨v144, adz_v144, v150, adz_v150, v156, adz_v156, (.pointer (some (adz_v144.add (t146).toNat))), m8_, m13_, (by rw [ha.out]; exact putSel_upk 2 hb_ rfl rfl rfl), fun h0_ => absurd ((hon 2 (by kernel_rfl)).symm.trans h0_) (by decide), Q_HK, Q_HB, Q_HO145, Q_HA_HO145, Q_HI0_e2, Q_HO151, Q_HA_HO151, Q_HI0_e7, Q_HO157, Q_HA_HO157, Q_HI0_e12, fun _ => rfl, Q_X8_, Q_X13_⟩
                      refine steps_cons ?_ ?_
                      · rintro b a w' ⟨v144, adz_v144, v150, adz_v150, v156, adz_v156, m3_, m8_, m13_, ha, Q_HI0, Q_HK, Q_HB, Q_HO145, Q_HA_HO145, Q_HI0_e2, Q_HO151, Q_HA_HO151, Q_HI0_e7, Q_HO157, Q_HA_HO157, Q_HI0_e12, Q_X3_, Q_X8_, Q_X13_⟩ hb_ hon hoff
                        refine ⟨_, rfl, fun K hK => ?_⟩
                        have e37 : a.tmps[37]? = some (m3_) := by rw [ha]; exact putSel_on (e := (3, 37, m3_)) 2 rfl rfl (hon 3 (by kernel_rfl)) rfl
                        rw [Q_X3_ (hon 3 (by kernel_rfl))] at e37
                        replace ha := Aside0.mk ha
                        have HK := Aside0.mk Q_HK
                        have HB := Aside0.mk Q_HB
                        have HO145 := Aside0.mk (Q_HO145 (hon 0 (by kernel_rfl)))
                        have HA_HO145 := Aside0.mk (Q_HA_HO145 (hon 0 (by kernel_rfl)))
                        obtain ⟨c_, hv_⟩ := HA_HO145.out
                        have hF_ := HO145.out
                        rw [hv_] at hF_
                        obtain ⟨ad_, ea_, hx_⟩ := Kd.at_int (Kd.R_reads' hF_).2.2 t146 (of_eq_true pi148) (of_eq_true qi148)
                        cases ea_
                        refine value_ (w1 := w') (v := .int .i64 (rd y143 t146)) (by rfl) rfl ?_ ?_
                        · go_simp
                          (try simp only [i64_w])
                          try rfl
                        refine hK.out _ _ ⟨v144, adz_v144, v150, adz_v150, v156, adz_v156, m3_, m8_, m13_, (by rw [ha.out]; exact putSel_upk 3 hb_ rfl rfl rfl), fun h0_ => absurd ((hon 2 (by kernel_rfl)).symm.trans h0_) (by decide), Q_HK, Q_HB, Q_HO145, Q_HA_HO145, Q_HI0_e2, Q_HO151, Q_HA_HO151, Q_HI0_e7, Q_HO157, Q_HA_HO157, Q_HI0_e12, Q_X3_, Q_X8_, Q_X13_⟩
                      refine steps_cons ?_ ?_
                      · rintro b a w' ⟨v144, adz_v144, v150, adz_v150, v156, adz_v156, m3_, m8_, m13_, ha, Q_HI0, Q_HK, Q_HB, Q_HO145, Q_HA_HO145, Q_HI0_e2, Q_HO151, Q_HA_HO151, Q_HI0_e7, Q_HO157, Q_HA_HO157, Q_HI0_e12, Q_X3_, Q_X8_, Q_X13_⟩ hb_ hon hoff
                        refine ⟨_, rfl, fun K hK => ?_⟩
                        replace ha := Aside0.mk ha
                        have HK := Aside0.mk Q_HK
                        have HB := Aside0.mk Q_HB
                        refine Kd.R_lit_step (Kd.int .i64) _ 3 ?hg (N := 39) ?hd (xs := ([4, 3, 8, 12] : List Int)) (inner := [.int .i64 4, .int .i64 3, .int .i64 8, .int .i64 12]) (ok := fun _ => True) (okp := fun _ => True) ?hr ?hp (fun _ hk => hk) trivial (Below.refl _ _) (Nat.le_refl _) (by simp) ?_; (case hd => rfl); (case hg => rfl); (case hr => first | (go_simp; done) | (go_simp; rfl)); (case hp => exact (Reps.one (show Kd.M (Kd.int .i64) _ _ _ 4 [.int .i64 4] from rfl) (Reps.one (show Kd.M (Kd.int .i64) _ _ _ 3 [.int .i64 3] from rfl) (Reps.one (show Kd.M (Kd.int .i64) _ _ _ 8 [.int .i64 8] from rfl) (Reps.one (show Kd.M (Kd.int .i64) _ _ _ 12 [.int .i64 12] from rfl) (Reps.none _ _))))))
                        intro v150 w23 ho24 hb hg_ hnew_
                        clear hg_ hnew_
                        (first | rw [← Ny149.out] at ho24 | (simp only [Int.reduceToNat] at ho24; rw [← Ny149.out] at ho24))
                        have n0_ := Aside0.mk (Kd.R_lower ho24 (keep_size (w := w) (g := g) (row := none) (by repeat (first | (with_reducible first | exact HK.out | apply KeepBut.set_ | apply keep_drewN | apply keep_drew | apply keep_alloc) | exact HK.out))))
                        have n2_ := Aside0.mk (KeepBut.trans (by repeat (first | (with_reducible first | exact HK.out | apply KeepBut.set_ | apply keep_drewN | apply keep_drew | apply keep_alloc) | exact HK.out)) (KeepBut.of_below hb g none) (.inl rfl))
                        have n3_ := Aside0.mk (below_step (by repeat (first | (with_reducible first | exact HB.out | apply below_alloc | apply pw_below_drewN | apply below_drew1) | exact HB.out)) hb)
                        have z_HI0 := fun (h0_ : b 2 = false) => (show IsS64 w0 w23 g s0_0 x1001_4 from by first | exact (IsS64.below (by repeat (first | (with_reducible first | exact (Q_HI0 h0_) | apply IsS64.alloc | apply IsS64.drewN | apply IsS64.drew | apply IsS64.set_1) | exact (Q_HI0 h0_))) hb))
                        have z_HO145 := fun (h0_ : b 0 = true) => (show Kd.R (Kd.int .i64) 3 w23 w.heap.size (fun _ => True) v144 y143 from by first | exact (Kd.R_elder' (by (with_reducible repeat (first | apply Kd.R_alloc | apply Kd.R_drewN | apply Kd.R_drew)); exact (Q_HO145 h0_)) (Kd.R_base ho24) hb) | exact Kd.R_mono (Kd.R_elder' (by (with_reducible repeat (first | apply Kd.R_alloc | apply Kd.R_drewN | apply Kd.R_drew)); exact (Q_HO145 h0_)) (Kd.R_base ho24) hb) (fun _ h_ => by first | trivial | exact h_ | exact h_.1))
                        have z_HI0_e2 := fun (h0_ : b 2 = true) (h1_ : b 7 = false) => (show IsS64 w0 w23 g s0_0 t147 from by first | exact (IsS64.below (by repeat (first | (with_reducible first | exact (Q_HI0_e2 h0_ h1_) | apply IsS64.alloc | apply IsS64.drewN | apply IsS64.drew | apply IsS64.set_1) | exact (Q_HI0_e2 h0_ h1_))) hb))
                        have z_HI0_e7 := fun (h0_ : b 7 = true) (h1_ : b 12 = false) => (show IsS64 w0 w23 g s0_0 t153 from by first | exact (IsS64.below (by repeat (first | (with_reducible first | exact (Q_HI0_e7 h0_ h1_) | apply IsS64.alloc | apply IsS64.drewN | apply IsS64.drew | apply IsS64.set_1) | exact (Q_HI0_e7 h0_ h1_))) hb))
                        have z_HO157 := fun (h0_ : b 10 = true) => (show Kd.R (Kd.int .i64) 3 w23 w.heap.size (fun _ => True) v156 y155 from by first | exact (Kd.R_elder' (by (with_reducible repeat (first | apply Kd.R_alloc | apply Kd.R_drewN | apply Kd.R_drew)); exact (Q_HO157 h0_)) (Kd.R_base ho24) hb) | exact Kd.R_mono (Kd.R_elder' (by (with_reducible repeat (first | apply Kd.R_alloc | apply Kd.R_drewN | apply Kd.R_drew)); exact (Q_HO157 h0_)) (Kd.R_base ho24) hb) (fun _ h_ => by first | trivial | exact h_ | exact h_.1))
                        have z_HI0_e12 := fun (h0_ : b 12 = true) => (show IsS64 w0 w23 g s0_0 t159 from by first | exact (IsS64.below (by repeat (first | (with_reducible first | exact (Q_HI0_e12 h0_) | apply IsS64.alloc | apply IsS64.drewN | apply IsS64.drew | apply IsS64.set_1) | exact (Q_HI0_e12 h0_))) hb))
                        clear HK
                        clear HB
                        have HO151 := n0_
                        have HK := n2_
                        have HB := n3_
                        clear n0_ n2_ n3_
                        clear hb ho24
                        obtain ⟨Ao25, co25, eo25⟩ := Kd.R_slice HO151.out
                        subst eo25
                        obtain ⟨ado25, fo25, _⟩ := Kd.at_int (Kd.R_reads' HO151.out).2.2 0 (by decide) (by rw [Ny149.out]; simp)
                        cases fo25
                        refine hK.out _ _ ⟨v144, adz_v144, .slice (some ado25) y149.length co25, ado25, v156, adz_v156, m3_, m8_, m13_, (by rw [ha.out]; exact putSel_upk 4 hb_ rfl rfl rfl), z_HI0, (by repeat (first | (with_reducible first | exact HK.out | apply KeepBut.set_ | apply keep_drewN | apply keep_drew | apply keep_alloc) | exact HK.out)), (by repeat (first | (with_reducible first | exact HB.out | apply below_alloc | apply pw_below_drewN | apply below_drew1) | exact HB.out)), z_HO145, Q_HA_HO145, z_HI0_e2, fun _ => (by (with_reducible repeat (first | apply Kd.R_alloc | apply Kd.R_drewN | apply Kd.R_drew)); exact HO151.out), fun _ => ⟨_, rfl⟩, z_HI0_e7, z_HO157, Q_HA_HO157, z_HI0_e12, Q_X3_, fun h0_ => absurd ((hoff 8 (by kernel_rfl)).symm.trans h0_) (by decide), Q_X13_⟩
                      refine steps_cons ?_ ?_
                      · rintro b a w' ⟨v144, adz_v144, v150, adz_v150, v156, adz_v156, m3_, m8_, m13_, ha, Q_HI0, Q_HK, Q_HB, Q_HO145, Q_HA_HO145, Q_HI0_e2, Q_HO151, Q_HA_HO151, Q_HI0_e7, Q_HO157, Q_HA_HO157, Q_HI0_e12, Q_X3_, Q_X8_, Q_X13_⟩ hb_ hon hoff
                        refine ⟨_, rfl, fun K hK => ?_⟩
                        have e40 : a.tmps[40]? = some (.pointer (some ⟨g, 0, none⟩)) := by rw [ha]; exact (putSel_off rfl).trans rfl
                        replace ha := Aside0.mk ha
                        have HK := Aside0.mk Q_HK
                        have HB := Aside0.mk Q_HB
                        have HI0 := Aside0.mk (Q_HI0_e2 (hon 2 (by kernel_rfl)) hb_)
                        refine goes_ Try.func49 (by kernel_rfl) rfl #[.pointer (some ⟨g, 0, none⟩), .int .i64 4] (by rfl) rfl rfl (by first | (simp only [List.map_toArray, List.map_cons, List.map_nil, Act.eval, Array.getD_eq_getD_getElem?, Option.getD_some, e40]; done) | (simp only [List.map_toArray, List.map_cons, List.map_nil, Act.eval, Array.getD_eq_getD_getElem?, Option.getD_some, e40]; rfl)) ?_
                        with_reducible refine (spec_l6Rd_pick.calls kj4 g s0_0 t147 4 t152 t153 w0 _ ?side1 ?side2 A16.out).mono ?_
                        (case side1 => repeat (first | (with_reducible first | exact HI0.out | apply IsS64.alloc | apply IsS64.drewN | apply IsS64.drew | apply IsS64.set_1) | exact HI0.out))
                        (case side2 => repeat (first | (with_reducible first | exact HB.out | apply below_alloc | apply pw_below_drewN | apply below_drew1 | refine below_set ?_ (IsS64.ge HI0.out)) | exact HB.out))
                        rintro e w25 ⟨rfl, hi, hb, hk⟩
                        refine ⟨_, rfl, ?_⟩
                        have n0_ := Aside0.mk (KeepBut.trans (by repeat (first | (with_reducible first | exact HK.out | apply KeepBut.set_ | apply keep_drewN | apply keep_drew | apply keep_alloc) | exact HK.out)) hk (.inl rfl))
                        have n1_ := Aside0.mk (hb)
                        have n2_ := Aside0.mk (hi)
                        have z_HO145 := fun (h0_ : b 0 = true) => (show Kd.R (Kd.int .i64) 3 w25 w.heap.size (fun _ => True) v144 y143 from by first | exact (Kd.R_mono (Kd.R_keep (IsS64.apart (show IsS64 w0 _ g s0_0 t147 from by repeat (first | (with_reducible first | exact HI0.out | apply IsS64.alloc | apply IsS64.drewN | apply IsS64.drew | apply IsS64.set_1) | exact HI0.out)) (by (with_reducible repeat (first | apply Kd.R_alloc | apply Kd.R_drewN | apply Kd.R_drew)); exact (Q_HO145 h0_)) (by decide)) hk (fun _ h => h.2)) (fun _ h => h.1)) | exact Kd.R_mono (Kd.R_mono (Kd.R_keep (IsS64.apart (show IsS64 w0 _ g s0_0 t147 from by repeat (first | (with_reducible first | exact HI0.out | apply IsS64.alloc | apply IsS64.drewN | apply IsS64.drew | apply IsS64.set_1) | exact HI0.out)) (by (with_reducible repeat (first | apply Kd.R_alloc | apply Kd.R_drewN | apply Kd.R_drew)); exact (Q_HO145 h0_)) (by decide)) hk (fun _ h => h.2)) (fun _ h => h.1)) (fun _ h_ => by first | trivial | exact h_ | exact h_.1))
                        have z_HO151 := fun (h0_ : b 5 = true) => (show Kd.R (Kd.int .i64) 3 w25 w.heap.size (fun _ => True) v150 y149 from by first | exact (Kd.R_mono (Kd.R_keep (IsS64.apart (show IsS64 w0 _ g s0_0 t147 from by repeat (first | (with_reducible first | exact HI0.out | apply IsS64.alloc | apply IsS64.drewN | apply IsS64.drew | apply IsS64.set_1) | exact HI0.out)) (by (with_reducible repeat (first | apply Kd.R_alloc | apply Kd.R_drewN | apply Kd.R_drew)); exact (Q_HO151 h0_)) (by decide)) hk (fun _ h => h.2)) (fun _ h => h.1)) | exact Kd.R_mono (Kd.R_mono (Kd.R_keep (IsS64.apart (show IsS64 w0 _ g s0_0 t147 from by repeat (first | (with_reducible first | exact HI0.out | apply IsS64.alloc | apply IsS64.drewN | apply IsS64.drew | apply IsS64.set_1) | exact HI0.out)) (by (with_reducible repeat (first | apply Kd.R_alloc | apply Kd.R_drewN | apply Kd.R_drew)); exact (Q_HO151 h0_)) (by decide)) hk (fun _ h => h.2)) (fun _ h => h.1)) (fun _ h_ => by first | trivial | exact h_ | exact h_.1))
                        have z_HO157 := fun (h0_ : b 10 = true) => (show Kd.R (Kd.int .i64) 3 w25 w.heap.size (fun _ => True) v156 y155 from by first | exact (Kd.R_mono (Kd.R_keep (IsS64.apart (show IsS64 w0 _ g s0_0 t147 from by repeat (first | (with_reducible first | exact HI0.out | apply IsS64.alloc | apply IsS64.drewN | apply IsS64.drew | apply IsS64.set_1) | exact HI0.out)) (by (with_reducible repeat (first | apply Kd.R_alloc | apply Kd.R_drewN | apply Kd.R_drew)); exact (Q_HO157 h0_)) (by decide)) hk (fun _ h => h.2)) (fun _ h => h.1)) | exact Kd.R_mono (Kd.R_mono (Kd.R_keep (IsS64.apart (show IsS64 w0 _ g s0_0 t147 from by repeat (first | (with_reducible first | exact HI0.out | apply IsS64.alloc | apply IsS64.drewN | apply IsS64.drew | apply IsS64.set_1) | exact HI0.out)) (by (with_reducible repeat (first | apply Kd.R_alloc | apply Kd.R_drewN | apply Kd.R_drew)); exact (Q_HO157 h0_)) (by decide)) hk (fun _ h => h.2)) (fun _ h => h.1)) (fun _ h_ => by first | trivial | exact h_ | exact h_.1))
                        clear HK
                        clear HB
                        clear HI0
                        have HK := n0_
                        have HB := n1_
                        have HI0 := n2_
                        clear n0_ n1_ n2_
                        (try clear hb)
                        (try clear hb2)
                        (try clear hk)
                        (try clear hi)
                        refine hK.out _ _ ⟨v144, adz_v144, v150, adz_v150, v156, adz_v156, m3_, m8_, m13_, (by rw [ha.out]; exact putSel_upk 5 hb_ rfl rfl rfl), fun h0_ => absurd ((hon 2 (by kernel_rfl)).symm.trans h0_) (by decide), (by repeat (first | (with_reducible first | exact HK.out | apply KeepBut.set_ | apply keep_drewN | apply keep_drew | apply keep_alloc) | exact HK.out)), (by repeat (first | (with_reducible first | exact HB.out | apply below_alloc | apply pw_below_drewN | apply below_drew1 | refine below_set ?_ (IsS64.ge HI0.out)) | exact HB.out)), z_HO145, Q_HA_HO145, fun _ h1_ => absurd ((up_self b 7).symm.trans h1_) (by decide), z_HO151, Q_HA_HO151, fun _ _ => (by repeat (first | (with_reducible first | exact HI0.out | apply IsS64.alloc | apply IsS64.drewN | apply IsS64.drew | apply IsS64.set_1) | exact HI0.out)), z_HO157, Q_HA_HO157, fun h0_ => absurd ((hoff 12 (by kernel_rfl)).symm.trans h0_) (by decide), Q_X3_, fun h0_ => absurd ((hoff 8 (by kernel_rfl)).symm.trans h0_) (by decide), fun h0_ => absurd ((hoff 13 (by kernel_rfl)).symm.trans h0_) (by decide)⟩
                      refine steps_cons ?_ ?_
                      · rintro b a w' ⟨v144, adz_v144, v150, adz_v150, v156, adz_v156, m3_, m8_, m13_, ha, Q_HI0, Q_HK, Q_HB, Q_HO145, Q_HA_HO145, Q_HI0_e2, Q_HO151, Q_HA_HO151, Q_HI0_e7, Q_HO157, Q_HA_HO157, Q_HI0_e12, Q_X3_, Q_X8_, Q_X13_⟩ hb_ hon hoff
                        refine ⟨_, rfl, fun K hK => ?_⟩
                        have e39 : a.tmps[39]? = some (v150) := by rw [ha]; exact putSel_on (e := (5, 39, v150)) 4 rfl rfl (hon 5 (by kernel_rfl)) rfl
                        have e41 : a.tmps[41]? = some (.int .i64 t152) := by rw [ha]; exact putSel_on (e := (7, 41, .int .i64 t152)) 5 rfl rfl (hon 7 (by kernel_rfl)) rfl
                        replace ha := Aside0.mk ha
                        have HK := Aside0.mk Q_HK
                        have HB := Aside0.mk Q_HB
                        have HO151 := Aside0.mk (Q_HO151 (hon 5 (by kernel_rfl)))
                        have HA_HO151 := Aside0.mk (Q_HA_HO151 (hon 5 (by kernel_rfl)))
                        obtain ⟨c_, hv_⟩ := HA_HO151.out
                        rw [hv_] at e39
                        refine value_ (w1 := w') (v := .pointer (some (adz_v150.add (t152).toNat))) (by rfl) rfl ?_ ?_
                        · go_simp
                          (try simp only [i64_w])
                          try rfl
                        refine hK.out _ _ ⟨v144, adz_v144, v150, adz_v150, v156, adz_v156, m3_, (.pointer (some (adz_v150.add (t152).toNat))), m13_, (by rw [ha.out]; exact putSel_upk 6 hb_ rfl rfl rfl), fun h0_ => absurd ((hon 2 (by kernel_rfl)).symm.trans h0_) (by decide), Q_HK, Q_HB, Q_HO145, Q_HA_HO145, fun _ h1_ => absurd ((hon 7 (by kernel_rfl)).symm.trans h1_) (by decide), Q_HO151, Q_HA_HO151, Q_HI0_e7, Q_HO157, Q_HA_HO157, Q_HI0_e12, Q_X3_, fun _ => rfl, Q_X13_⟩
                      refine steps_cons ?_ ?_
                      · rintro b a w' ⟨v144, adz_v144, v150, adz_v150, v156, adz_v156, m3_, m8_, m13_, ha, Q_HI0, Q_HK, Q_HB, Q_HO145, Q_HA_HO145, Q_HI0_e2, Q_HO151, Q_HA_HO151, Q_HI0_e7, Q_HO157, Q_HA_HO157, Q_HI0_e12, Q_X3_, Q_X8_, Q_X13_⟩ hb_ hon hoff
                        refine ⟨_, rfl, fun K hK => ?_⟩
                        have e42 : a.tmps[42]? = some (m8_) := by rw [ha]; exact putSel_on (e := (8, 42, m8_)) 6 rfl rfl (hon 8 (by kernel_rfl)) rfl
                        rw [Q_X8_ (hon 8 (by kernel_rfl))] at e42
                        replace ha := Aside0.mk ha
                        have HK := Aside0.mk Q_HK
                        have HB := Aside0.mk Q_HB
                        have HO151 := Aside0.mk (Q_HO151 (hon 5 (by kernel_rfl)))
                        have HA_HO151 := Aside0.mk (Q_HA_HO151 (hon 5 (by kernel_rfl)))
                        obtain ⟨c_, hv_⟩ := HA_HO151.out
                        have hF_ := HO151.out
                        rw [hv_] at hF_
                        obtain ⟨ad_, ea_, hx_⟩ := Kd.at_int (Kd.R_reads' hF_).2.2 t152 (of_eq_true pi154) (of_eq_true qi154)
                        cases ea_
                        refine value_ (w1 := w') (v := .int .i64 (rd y149 t152)) (by rfl) rfl ?_ ?_
                        · go_simp
                          (try simp only [i64_w])
                          try rfl
                        refine hK.out _ _ ⟨v144, adz_v144, v150, adz_v150, v156, adz_v156, m3_, m8_, m13_, (by rw [ha.out]; exact putSel_upk 7 hb_ rfl rfl rfl), fun h0_ => absurd ((hon 2 (by kernel_rfl)).symm.trans h0_) (by decide), Q_HK, Q_HB, Q_HO145, Q_HA_HO145, fun _ h1_ => absurd ((hon 7 (by kernel_rfl)).symm.trans h1_) (by decide), Q_HO151, Q_HA_HO151, Q_HI0_e7, Q_HO157, Q_HA_HO157, Q_HI0_e12, Q_X3_, Q_X8_, Q_X13_⟩
                      refine steps_cons ?_ ?_
                      · rintro b a w' ⟨v144, adz_v144, v150, adz_v150, v156, adz_v156, m3_, m8_, m13_, ha, Q_HI0, Q_HK, Q_HB, Q_HO145, Q_HA_HO145, Q_HI0_e2, Q_HO151, Q_HA_HO151, Q_HI0_e7, Q_HO157, Q_HA_HO157, Q_HI0_e12, Q_X3_, Q_X8_, Q_X13_⟩ hb_ hon hoff
                        refine ⟨_, rfl, fun K hK => ?_⟩
                        replace ha := Aside0.mk ha
                        have HK := Aside0.mk Q_HK
                        have HB := Aside0.mk Q_HB
                        refine Kd.R_lit_step (Kd.int .i64) _ 3 ?hg (N := 44) ?hd (xs := ([5, 10, 13] : List Int)) (inner := [.int .i64 5, .int .i64 10, .int .i64 13]) (ok := fun _ => True) (okp := fun _ => True) ?hr ?hp (fun _ hk => hk) trivial (Below.refl _ _) (Nat.le_refl _) (by simp) ?_; (case hd => rfl); (case hg => rfl); (case hr => first | (go_simp; done) | (go_simp; rfl)); (case hp => exact (Reps.one (show Kd.M (Kd.int .i64) _ _ _ 5 [.int .i64 5] from rfl) (Reps.one (show Kd.M (Kd.int .i64) _ _ _ 10 [.int .i64 10] from rfl) (Reps.one (show Kd.M (Kd.int .i64) _ _ _ 13 [.int .i64 13] from rfl) (Reps.none _ _)))))
                        intro v156 w23 ho24 hb hg_ hnew_
                        clear hg_ hnew_
                        (first | rw [← Ny155.out] at ho24 | (simp only [Int.reduceToNat] at ho24; rw [← Ny155.out] at ho24))
                        have n0_ := Aside0.mk (Kd.R_lower ho24 (keep_size (w := w) (g := g) (row := none) (by repeat (first | (with_reducible first | exact HK.out | apply KeepBut.set_ | apply keep_drewN | apply keep_drew | apply keep_alloc) | exact HK.out))))
                        have n2_ := Aside0.mk (KeepBut.trans (by repeat (first | (with_reducible first | exact HK.out | apply KeepBut.set_ | apply keep_drewN | apply keep_drew | apply keep_alloc) | exact HK.out)) (KeepBut.of_below hb g none) (.inl rfl))
                        have n3_ := Aside0.mk (below_step (by repeat (first | (with_reducible first | exact HB.out | apply below_alloc | apply pw_below_drewN | apply below_drew1) | exact HB.out)) hb)
                        have z_HI0 := fun (h0_ : b 2 = false) => (show IsS64 w0 w23 g s0_0 x1001_4 from by first | exact (IsS64.below (by repeat (first | (with_reducible first | exact (Q_HI0 h0_) | apply IsS64.alloc | apply IsS64.drewN | apply IsS64.drew | apply IsS64.set_1) | exact (Q_HI0 h0_))) hb))
                        have z_HO145 := fun (h0_ : b 0 = true) => (show Kd.R (Kd.int .i64) 3 w23 w.heap.size (fun _ => True) v144 y143 from by first | exact (Kd.R_elder' (by (with_reducible repeat (first | apply Kd.R_alloc | apply Kd.R_drewN | apply Kd.R_drew)); exact (Q_HO145 h0_)) (Kd.R_base ho24) hb) | exact Kd.R_mono (Kd.R_elder' (by (with_reducible repeat (first | apply Kd.R_alloc | apply Kd.R_drewN | apply Kd.R_drew)); exact (Q_HO145 h0_)) (Kd.R_base ho24) hb) (fun _ h_ => by first | trivial | exact h_ | exact h_.1))
                        have z_HI0_e2 := fun (h0_ : b 2 = true) (h1_ : b 7 = false) => (show IsS64 w0 w23 g s0_0 t147 from by first | exact (IsS64.below (by repeat (first | (with_reducible first | exact (Q_HI0_e2 h0_ h1_) | apply IsS64.alloc | apply IsS64.drewN | apply IsS64.drew | apply IsS64.set_1) | exact (Q_HI0_e2 h0_ h1_))) hb))
                        have z_HO151 := fun (h0_ : b 5 = true) => (show Kd.R (Kd.int .i64) 3 w23 w.heap.size (fun _ => True) v150 y149 from by first | exact (Kd.R_elder' (by (with_reducible repeat (first | apply Kd.R_alloc | apply Kd.R_drewN | apply Kd.R_drew)); exact (Q_HO151 h0_)) (Kd.R_base ho24) hb) | exact Kd.R_mono (Kd.R_elder' (by (with_reducible repeat (first | apply Kd.R_alloc | apply Kd.R_drewN | apply Kd.R_drew)); exact (Q_HO151 h0_)) (Kd.R_base ho24) hb) (fun _ h_ => by first | trivial | exact h_ | exact h_.1))
                        have z_HI0_e7 := fun (h0_ : b 7 = true) (h1_ : b 12 = false) => (show IsS64 w0 w23 g s0_0 t153 from by first | exact (IsS64.below (by repeat (first | (with_reducible first | exact (Q_HI0_e7 h0_ h1_) | apply IsS64.alloc | apply IsS64.drewN | apply IsS64.drew | apply IsS64.set_1) | exact (Q_HI0_e7 h0_ h1_))) hb))
                        have z_HI0_e12 := fun (h0_ : b 12 = true) => (show IsS64 w0 w23 g s0_0 t159 from by first | exact (IsS64.below (by repeat (first | (with_reducible first | exact (Q_HI0_e12 h0_) | apply IsS64.alloc | apply IsS64.drewN | apply IsS64.drew | apply IsS64.set_1) | exact (Q_HI0_e12 h0_))) hb))
                        clear HK
                        clear HB
                        have HO157 := n0_
                        have HK := n2_
                        have HB := n3_
                        clear n0_ n2_ n3_
                        clear hb ho24
                        obtain ⟨Ao25, co25, eo25⟩ := Kd.R_slice HO157.out
                        subst eo25
                        obtain ⟨ado25, fo25, _⟩ := Kd.at_int (Kd.R_reads' HO157.out).2.2 0 (by decide) (by rw [Ny155.out]; simp)
                        cases fo25
                        refine hK.out _ _ ⟨v144, adz_v144, v150, adz_v150, .slice (some ado25) y155.length co25, ado25, m3_, m8_, m13_, (by rw [ha.out]; exact putSel_upk 8 hb_ rfl rfl rfl), z_HI0, (by repeat (first | (with_reducible first | exact HK.out | apply KeepBut.set_ | apply keep_drewN | apply keep_drew | apply keep_alloc) | exact HK.out)), (by repeat (first | (with_reducible first | exact HB.out | apply below_alloc | apply pw_below_drewN | apply below_drew1) | exact HB.out)), z_HO145, Q_HA_HO145, z_HI0_e2, z_HO151, Q_HA_HO151, z_HI0_e7, fun _ => (by (with_reducible repeat (first | apply Kd.R_alloc | apply Kd.R_drewN | apply Kd.R_drew)); exact HO157.out), fun _ => ⟨_, rfl⟩, z_HI0_e12, Q_X3_, Q_X8_, fun h0_ => absurd ((hoff 13 (by kernel_rfl)).symm.trans h0_) (by decide)⟩
                      refine steps_cons ?_ ?_
                      · rintro b a w' ⟨v144, adz_v144, v150, adz_v150, v156, adz_v156, m3_, m8_, m13_, ha, Q_HI0, Q_HK, Q_HB, Q_HO145, Q_HA_HO145, Q_HI0_e2, Q_HO151, Q_HA_HO151, Q_HI0_e7, Q_HO157, Q_HA_HO157, Q_HI0_e12, Q_X3_, Q_X8_, Q_X13_⟩ hb_ hon hoff
                        refine ⟨_, rfl, fun K hK => ?_⟩
                        have e45 : a.tmps[45]? = some (.pointer (some ⟨g, 0, none⟩)) := by rw [ha]; exact (putSel_off rfl).trans rfl
                        replace ha := Aside0.mk ha
                        have HK := Aside0.mk Q_HK
                        have HB := Aside0.mk Q_HB
                        have HI0 := Aside0.mk (Q_HI0_e7 (hon 7 (by kernel_rfl)) hb_)
                        refine goes_ Try.func49 (by kernel_rfl) rfl #[.pointer (some ⟨g, 0, none⟩), .int .i64 3] (by rfl) rfl rfl (by first | (simp only [List.map_toArray, List.map_cons, List.map_nil, Act.eval, Array.getD_eq_getD_getElem?, Option.getD_some, e45]; done) | (simp only [List.map_toArray, List.map_cons, List.map_nil, Act.eval, Array.getD_eq_getD_getElem?, Option.getD_some, e45]; rfl)) ?_
                        with_reducible refine (spec_l6Rd_pick.calls kj4 g s0_0 t153 3 t158 t159 w0 _ ?side1 ?side2 A19.out).mono ?_
                        (case side1 => repeat (first | (with_reducible first | exact HI0.out | apply IsS64.alloc | apply IsS64.drewN | apply IsS64.drew | apply IsS64.set_1) | exact HI0.out))
                        (case side2 => repeat (first | (with_reducible first | exact HB.out | apply below_alloc | apply pw_below_drewN | apply below_drew1 | refine below_set ?_ (IsS64.ge HI0.out)) | exact HB.out))
                        rintro e w26 ⟨rfl, hi, hb, hk⟩
                        refine ⟨_, rfl, ?_⟩
                        have n0_ := Aside0.mk (KeepBut.trans (by repeat (first | (with_reducible first | exact HK.out | apply KeepBut.set_ | apply keep_drewN | apply keep_drew | apply keep_alloc) | exact HK.out)) hk (.inl rfl))
                        have n1_ := Aside0.mk (hb)
                        have n2_ := Aside0.mk (hi)
                        have z_HO145 := fun (h0_ : b 0 = true) => (show Kd.R (Kd.int .i64) 3 w26 w.heap.size (fun _ => True) v144 y143 from by first | exact (Kd.R_mono (Kd.R_keep (IsS64.apart (show IsS64 w0 _ g s0_0 t153 from by repeat (first | (with_reducible first | exact HI0.out | apply IsS64.alloc | apply IsS64.drewN | apply IsS64.drew | apply IsS64.set_1) | exact HI0.out)) (by (with_reducible repeat (first | apply Kd.R_alloc | apply Kd.R_drewN | apply Kd.R_drew)); exact (Q_HO145 h0_)) (by decide)) hk (fun _ h => h.2)) (fun _ h => h.1)) | exact Kd.R_mono (Kd.R_mono (Kd.R_keep (IsS64.apart (show IsS64 w0 _ g s0_0 t153 from by repeat (first | (with_reducible first | exact HI0.out | apply IsS64.alloc | apply IsS64.drewN | apply IsS64.drew | apply IsS64.set_1) | exact HI0.out)) (by (with_reducible repeat (first | apply Kd.R_alloc | apply Kd.R_drewN | apply Kd.R_drew)); exact (Q_HO145 h0_)) (by decide)) hk (fun _ h => h.2)) (fun _ h => h.1)) (fun _ h_ => by first | trivial | exact h_ | exact h_.1))
                        have z_HO151 := fun (h0_ : b 5 = true) => (show Kd.R (Kd.int .i64) 3 w26 w.heap.size (fun _ => True) v150 y149 from by first | exact (Kd.R_mono (Kd.R_keep (IsS64.apart (show IsS64 w0 _ g s0_0 t153 from by repeat (first | (with_reducible first | exact HI0.out | apply IsS64.alloc | apply IsS64.drewN | apply IsS64.drew | apply IsS64.set_1) | exact HI0.out)) (by (with_reducible repeat (first | apply Kd.R_alloc | apply Kd.R_drewN | apply Kd.R_drew)); exact (Q_HO151 h0_)) (by decide)) hk (fun _ h => h.2)) (fun _ h => h.1)) | exact Kd.R_mono (Kd.R_mono (Kd.R_keep (IsS64.apart (show IsS64 w0 _ g s0_0 t153 from by repeat (first | (with_reducible first | exact HI0.out | apply IsS64.alloc | apply IsS64.drewN | apply IsS64.drew | apply IsS64.set_1) | exact HI0.out)) (by (with_reducible repeat (first | apply Kd.R_alloc | apply Kd.R_drewN | apply Kd.R_drew)); exact (Q_HO151 h0_)) (by decide)) hk (fun _ h => h.2)) (fun _ h => h.1)) (fun _ h_ => by first | trivial | exact h_ | exact h_.1))
                        have z_HO157 := fun (h0_ : b 10 = true) => (show Kd.R (Kd.int .i64) 3 w26 w.heap.size (fun _ => True) v156 y155 from by first | exact (Kd.R_mono (Kd.R_keep (IsS64.apart (show IsS64 w0 _ g s0_0 t153 from by repeat (first | (with_reducible first | exact HI0.out | apply IsS64.alloc | apply IsS64.drewN | apply IsS64.drew | apply IsS64.set_1) | exact HI0.out)) (by (with_reducible repeat (first | apply Kd.R_alloc | apply Kd.R_drewN | apply Kd.R_drew)); exact (Q_HO157 h0_)) (by decide)) hk (fun _ h => h.2)) (fun _ h => h.1)) | exact Kd.R_mono (Kd.R_mono (Kd.R_keep (IsS64.apart (show IsS64 w0 _ g s0_0 t153 from by repeat (first | (with_reducible first | exact HI0.out | apply IsS64.alloc | apply IsS64.drewN | apply IsS64.drew | apply IsS64.set_1) | exact HI0.out)) (by (with_reducible repeat (first | apply Kd.R_alloc | apply Kd.R_drewN | apply Kd.R_drew)); exact (Q_HO157 h0_)) (by decide)) hk (fun _ h => h.2)) (fun _ h => h.1)) (fun _ h_ => by first | trivial | exact h_ | exact h_.1))
                        clear HK
                        clear HB
                        clear HI0
                        have HK := n0_
                        have HB := n1_
                        have HI0 := n2_
                        clear n0_ n1_ n2_
                        (try clear hb)
                        (try clear hb2)
                        (try clear hk)
                        (try clear hi)
                        refine hK.out _ _ ⟨v144, adz_v144, v150, adz_v150, v156, adz_v156, m3_, m8_, m13_, (by rw [ha.out]; exact putSel_upk 9 hb_ rfl rfl rfl), fun h0_ => absurd ((hon 2 (by kernel_rfl)).symm.trans h0_) (by decide), (by repeat (first | (with_reducible first | exact HK.out | apply KeepBut.set_ | apply keep_drewN | apply keep_drew | apply keep_alloc) | exact HK.out)), (by repeat (first | (with_reducible first | exact HB.out | apply below_alloc | apply pw_below_drewN | apply below_drew1 | refine below_set ?_ (IsS64.ge HI0.out)) | exact HB.out)), z_HO145, Q_HA_HO145, fun _ h1_ => absurd ((hon 7 (by kernel_rfl)).symm.trans h1_) (by decide), z_HO151, Q_HA_HO151, fun _ h1_ => absurd ((up_self b 12).symm.trans h1_) (by decide), z_HO157, Q_HA_HO157, fun _ => (by repeat (first | (with_reducible first | exact HI0.out | apply IsS64.alloc | apply IsS64.drewN | apply IsS64.drew | apply IsS64.set_1) | exact HI0.out)), Q_X3_, Q_X8_, fun h0_ => absurd ((hoff 13 (by kernel_rfl)).symm.trans h0_) (by decide)⟩
                      refine steps_cons ?_ ?_
                      · rintro b a w' ⟨v144, adz_v144, v150, adz_v150, v156, adz_v156, m3_, m8_, m13_, ha, Q_HI0, Q_HK, Q_HB, Q_HO145, Q_HA_HO145, Q_HI0_e2, Q_HO151, Q_HA_HO151, Q_HI0_e7, Q_HO157, Q_HA_HO157, Q_HI0_e12, Q_X3_, Q_X8_, Q_X13_⟩ hb_ hon hoff
                        refine ⟨_, rfl, fun K hK => ?_⟩
                        have e44 : a.tmps[44]? = some (v156) := by rw [ha]; exact putSel_on (e := (10, 44, v156)) 8 rfl rfl (hon 10 (by kernel_rfl)) rfl
                        have e46 : a.tmps[46]? = some (.int .i64 t158) := by rw [ha]; exact putSel_on (e := (12, 46, .int .i64 t158)) 9 rfl rfl (hon 12 (by kernel_rfl)) rfl
                        replace ha := Aside0.mk ha
                        have HK := Aside0.mk Q_HK
                        have HB := Aside0.mk Q_HB
                        have HO157 := Aside0.mk (Q_HO157 (hon 10 (by kernel_rfl)))
                        have HA_HO157 := Aside0.mk (Q_HA_HO157 (hon 10 (by kernel_rfl)))
                        have HI0 := Aside0.mk (Q_HI0_e12 (hon 12 (by kernel_rfl)))
                        obtain ⟨c_, hv_⟩ := HA_HO157.out
                        rw [hv_] at e44
                        refine value_ (w1 := w') (v := .pointer (some (adz_v156.add (t158).toNat))) (by rfl) rfl ?_ ?_
                        · go_simp
                          (try simp only [i64_w])
                          try rfl
                        refine hK.out _ _ ⟨v144, adz_v144, v150, adz_v150, v156, adz_v156, m3_, m8_, (.pointer (some (adz_v156.add (t158).toNat))), (by rw [ha.out]; exact putSel_upk 10 hb_ rfl rfl rfl), fun h0_ => absurd ((hon 2 (by kernel_rfl)).symm.trans h0_) (by decide), Q_HK, Q_HB, Q_HO145, Q_HA_HO145, fun _ h1_ => absurd ((hon 7 (by kernel_rfl)).symm.trans h1_) (by decide), Q_HO151, Q_HA_HO151, fun _ h1_ => absurd ((hon 12 (by kernel_rfl)).symm.trans h1_) (by decide), Q_HO157, Q_HA_HO157, Q_HI0_e12, Q_X3_, Q_X8_, fun _ => rfl⟩
                      refine steps_cons ?_ ?_
                      · rintro b a w' ⟨v144, adz_v144, v150, adz_v150, v156, adz_v156, m3_, m8_, m13_, ha, Q_HI0, Q_HK, Q_HB, Q_HO145, Q_HA_HO145, Q_HI0_e2, Q_HO151, Q_HA_HO151, Q_HI0_e7, Q_HO157, Q_HA_HO157, Q_HI0_e12, Q_X3_, Q_X8_, Q_X13_⟩ hb_ hon hoff
                        refine ⟨_, rfl, fun K hK => ?_⟩
                        have e47 : a.tmps[47]? = some (m13_) := by rw [ha]; exact putSel_on (e := (13, 47, m13_)) 10 rfl rfl (hon 13 (by kernel_rfl)) rfl
                        rw [Q_X13_ (hon 13 (by kernel_rfl))] at e47
                        replace ha := Aside0.mk ha
                        have HK := Aside0.mk Q_HK
                        have HB := Aside0.mk Q_HB
                        have HO157 := Aside0.mk (Q_HO157 (hon 10 (by kernel_rfl)))
                        have HA_HO157 := Aside0.mk (Q_HA_HO157 (hon 10 (by kernel_rfl)))
                        have HI0 := Aside0.mk (Q_HI0_e12 (hon 12 (by kernel_rfl)))
                        obtain ⟨c_, hv_⟩ := HA_HO157.out
                        have hF_ := HO157.out
                        rw [hv_] at hF_
                        obtain ⟨ad_, ea_, hx_⟩ := Kd.at_int (Kd.R_reads' hF_).2.2 t158 (of_eq_true pi160) (of_eq_true qi160)
                        cases ea_
                        refine value_ (w1 := w') (v := .int .i64 (rd y155 t158)) (by rfl) rfl ?_ ?_
                        · go_simp
                          (try simp only [i64_w])
                          try rfl
                        refine hK.out _ _ ⟨v144, adz_v144, v150, adz_v150, v156, adz_v156, m3_, m8_, m13_, (by rw [ha.out]; exact putSel_upk 11 hb_ rfl rfl rfl), fun h0_ => absurd ((hon 2 (by kernel_rfl)).symm.trans h0_) (by decide), Q_HK, Q_HB, Q_HO145, Q_HA_HO145, fun _ h1_ => absurd ((hon 7 (by kernel_rfl)).symm.trans h1_) (by decide), Q_HO151, Q_HA_HO151, fun _ h1_ => absurd ((hon 12 (by kernel_rfl)).symm.trans h1_) (by decide), Q_HO157, Q_HA_HO157, Q_HI0_e12, Q_X3_, Q_X8_, Q_X13_⟩
                      refine steps_cons ?_ ?_
                      · rintro b a w' ⟨v144, adz_v144, v150, adz_v150, v156, adz_v156, m3_, m8_, m13_, ha, Q_HI0, Q_HK, Q_HB, Q_HO145, Q_HA_HO145, Q_HI0_e2, Q_HO151, Q_HA_HO151, Q_HI0_e7, Q_HO157, Q_HA_HO157, Q_HI0_e12, Q_X3_, Q_X8_, Q_X13_⟩ hb_ hon hoff
                        refine ⟨_, rfl, fun K hK => ?_⟩
                        have e38 : a.tmps[38]? = some (.int .i64 (rd y143 t146)) := by rw [ha]; exact putSel_on (e := (4, 38, .int .i64 (rd y143 t146))) 3 rfl rfl (hon 4 (by kernel_rfl)) rfl
                        replace ha := Aside0.mk ha
                        have HK := Aside0.mk Q_HK
                        have HB := Aside0.mk Q_HB
                        have HO145 := Aside0.mk (Q_HO145 (hon 0 (by kernel_rfl)))
                        have HA_HO145 := Aside0.mk (Q_HA_HO145 (hon 0 (by kernel_rfl)))
                        have HI0 := Aside0.mk (Q_HI0_e12 (hon 12 (by kernel_rfl)))
                        refine value_ (w1 := w') (v := .int .i64 (rd y143 t146)) (by rfl) rfl ?_ ?_
                        · go_simp
                          (try simp only [i64_w])
                          try rfl
                        refine hK.out _ _ ⟨v144, adz_v144, v150, adz_v150, v156, adz_v156, m3_, m8_, m13_, (by rw [ha.out]; exact putSel_upk 12 hb_ rfl rfl rfl), fun h0_ => absurd ((hon 2 (by kernel_rfl)).symm.trans h0_) (by decide), Q_HK, Q_HB, Q_HO145, Q_HA_HO145, fun _ h1_ => absurd ((hon 7 (by kernel_rfl)).symm.trans h1_) (by decide), Q_HO151, Q_HA_HO151, fun _ h1_ => absurd ((hon 12 (by kernel_rfl)).symm.trans h1_) (by decide), Q_HO157, Q_HA_HO157, Q_HI0_e12, Q_X3_, Q_X8_, Q_X13_⟩
                      refine steps_cons ?_ ?_
                      · rintro b a w' ⟨v144, adz_v144, v150, adz_v150, v156, adz_v156, m3_, m8_, m13_, ha, Q_HI0, Q_HK, Q_HB, Q_HO145, Q_HA_HO145, Q_HI0_e2, Q_HO151, Q_HA_HO151, Q_HI0_e7, Q_HO157, Q_HA_HO157, Q_HI0_e12, Q_X3_, Q_X8_, Q_X13_⟩ hb_ hon hoff
                        refine ⟨_, rfl, fun K hK => ?_⟩
                        have e43 : a.tmps[43]? = some (.int .i64 (rd y149 t152)) := by rw [ha]; exact putSel_on (e := (9, 43, .int .i64 (rd y149 t152))) 7 rfl rfl (hon 9 (by kernel_rfl)) rfl
                        replace ha := Aside0.mk ha
                        have HK := Aside0.mk Q_HK
                        have HB := Aside0.mk Q_HB
                        have HO145 := Aside0.mk (Q_HO145 (hon 0 (by kernel_rfl)))
                        have HA_HO145 := Aside0.mk (Q_HA_HO145 (hon 0 (by kernel_rfl)))
                        have HO151 := Aside0.mk (Q_HO151 (hon 5 (by kernel_rfl)))
                        have HA_HO151 := Aside0.mk (Q_HA_HO151 (hon 5 (by kernel_rfl)))
                        have HI0 := Aside0.mk (Q_HI0_e12 (hon 12 (by kernel_rfl)))
                        refine value_ (w1 := w') (v := .int .i64 (rd y149 t152)) (by rfl) rfl ?_ ?_
                        · go_simp
                          (try simp only [i64_w])
                          try rfl
                        refine hK.out _ _ ⟨v144, adz_v144, v150, adz_v150, v156, adz_v156, m3_, m8_, m13_, (by rw [ha.out]; exact putSel_upk 13 hb_ rfl rfl rfl), fun h0_ => absurd ((hon 2 (by kernel_rfl)).symm.trans h0_) (by decide), Q_HK, Q_HB, Q_HO145, Q_HA_HO145, fun _ h1_ => absurd ((hon 7 (by kernel_rfl)).symm.trans h1_) (by decide), Q_HO151, Q_HA_HO151, fun _ h1_ => absurd ((hon 12 (by kernel_rfl)).symm.trans h1_) (by decide), Q_HO157, Q_HA_HO157, Q_HI0_e12, Q_X3_, Q_X8_, Q_X13_⟩
                      refine steps_cons ?_ ?_
                      · rintro b a w' ⟨v144, adz_v144, v150, adz_v150, v156, adz_v156, m3_, m8_, m13_, ha, Q_HI0, Q_HK, Q_HB, Q_HO145, Q_HA_HO145, Q_HI0_e2, Q_HO151, Q_HA_HO151, Q_HI0_e7, Q_HO157, Q_HA_HO157, Q_HI0_e12, Q_X3_, Q_X8_, Q_X13_⟩ hb_ hon hoff
                        refine ⟨_, rfl, fun K hK => ?_⟩
                        have e48 : a.tmps[48]? = some (.int .i64 (rd y155 t158)) := by rw [ha]; exact putSel_on (e := (14, 48, .int .i64 (rd y155 t158))) 11 rfl rfl (hon 14 (by kernel_rfl)) rfl
                        replace ha := Aside0.mk ha
                        have HK := Aside0.mk Q_HK
                        have HB := Aside0.mk Q_HB
                        have HO145 := Aside0.mk (Q_HO145 (hon 0 (by kernel_rfl)))
                        have HA_HO145 := Aside0.mk (Q_HA_HO145 (hon 0 (by kernel_rfl)))
                        have HO151 := Aside0.mk (Q_HO151 (hon 5 (by kernel_rfl)))
                        have HA_HO151 := Aside0.mk (Q_HA_HO151 (hon 5 (by kernel_rfl)))
                        have HO157 := Aside0.mk (Q_HO157 (hon 10 (by kernel_rfl)))
                        have HA_HO157 := Aside0.mk (Q_HA_HO157 (hon 10 (by kernel_rfl)))
                        have HI0 := Aside0.mk (Q_HI0_e12 (hon 12 (by kernel_rfl)))
                        refine value_ (w1 := w') (v := .int .i64 (rd y155 t158)) (by rfl) rfl ?_ ?_
                        · go_simp
                          (try simp only [i64_w])
                          try rfl
                        refine hK.out _ _ ⟨v144, adz_v144, v150, adz_v150, v156, adz_v156, m3_, m8_, m13_, (by rw [ha.out]; exact putSel_upk 14 hb_ rfl rfl rfl), fun h0_ => absurd ((hon 2 (by kernel_rfl)).symm.trans h0_) (by decide), Q_HK, Q_HB, Q_HO145, Q_HA_HO145, fun _ h1_ => absurd ((hon 7 (by kernel_rfl)).symm.trans h1_) (by decide), Q_HO151, Q_HA_HO151, fun _ h1_ => absurd ((hon 12 (by kernel_rfl)).symm.trans h1_) (by decide), Q_HO157, Q_HA_HO157, Q_HI0_e12, Q_X3_, Q_X8_, Q_X13_⟩
                      exact steps_nil
                    rintro b a w35 hall ⟨v144, adz_v144, v150, adz_v150, v156, adz_v156, m3_, m8_, m13_, ha, Q_HI0, Q_HK, Q_HB, Q_HO145, Q_HA_HO145, Q_HI0_e2, Q_HO151, Q_HA_HO151, Q_HI0_e7, Q_HO157, Q_HA_HO157, Q_HI0_e12, Q_X3_, Q_X8_, Q_X13_⟩
                    clear HB HI0 HK
                    have hb0_ := hall 0 (by kernel_rfl)
                    have hb2_ := hall 2 (by kernel_rfl)
                    have hb3_ := hall 3 (by kernel_rfl)
                    have hb4_ := hall 4 (by kernel_rfl)
                    have hb5_ := hall 5 (by kernel_rfl)
                    have hb7_ := hall 7 (by kernel_rfl)
                    have hb8_ := hall 8 (by kernel_rfl)
                    have hb9_ := hall 9 (by kernel_rfl)
                    have hb10_ := hall 10 (by kernel_rfl)
                    have hb12_ := hall 12 (by kernel_rfl)
                    have hb13_ := hall 13 (by kernel_rfl)
                    have hb14_ := hall 14 (by kernel_rfl)
                    have hb15_ := hall 15 (by kernel_rfl)
                    have hb16_ := hall 16 (by kernel_rfl)
                    have hb17_ := hall 17 (by kernel_rfl)
                    subst ha
                    obtain rfl := Q_X3_ hb3_
                    obtain rfl := Q_X8_ hb8_
                    obtain rfl := Q_X13_ hb13_
                    simp only [putSel, hb0_, hb2_, hb3_, hb4_, hb5_, hb7_, hb8_, hb9_, hb10_, hb12_, hb13_, hb14_, hb15_, hb16_, hb17_, if_true, Act.put, List.setIfInBounds_toArray, List.set_cons_zero, List.set_cons_succ]
                    clear Q_HI0
                    have HK := Aside0.mk Q_HK
                    clear Q_HK
                    have HB := Aside0.mk Q_HB
                    clear Q_HB
                    have HO145 := Aside0.mk (Q_HO145 hb0_)
                    clear Q_HO145
                    have HA_HO145 := Aside0.mk (Q_HA_HO145 hb0_)
                    clear Q_HA_HO145
                    clear Q_HI0_e2
                    have HO151 := Aside0.mk (Q_HO151 hb5_)
                    clear Q_HO151
                    have HA_HO151 := Aside0.mk (Q_HA_HO151 hb5_)
                    clear Q_HA_HO151
                    clear Q_HI0_e7
                    have HO157 := Aside0.mk (Q_HO157 hb10_)
                    clear Q_HO157
                    have HA_HO157 := Aside0.mk (Q_HA_HO157 hb10_)
                    clear Q_HA_HO157
                    have HI0 := Aside0.mk (Q_HI0_e12 hb12_)
                    clear Q_HI0_e12
                    clear hall hb0_ hb2_ hb3_ hb4_ hb5_ hb7_ hb8_ hb9_ hb10_ hb12_ hb13_ hb14_ hb15_ hb16_ hb17_
                    obtain ⟨co36, eo36⟩ := HA_HO145.out
                    clear HA_HO145
                    subst eo36
                    obtain ⟨co37, eo37⟩ := HA_HO151.out
                    clear HA_HO151
                    subst eo37
                    obtain ⟨co38, eo38⟩ := HA_HO157.out
                    clear HA_HO157
                    subst eo38
                    try go_wp2
                    go_ret3
                    exact ⟨by first | rfl | (simp [errW_none, errW_some] <;> rfl) | (simp [*, errW_none, errW_some] <;> rfl), by repeat (first | (with_reducible first | exact HI0.out | apply IsS64.alloc | apply IsS64.drewN | apply IsS64.drew | apply IsS64.set_1) | exact HI0.out), by repeat (first | (with_reducible first | exact HB.out | apply below_alloc | apply pw_below_drewN | apply below_drew1 | refine below_set ?_ (IsS64.ge HI0.out)) | exact HB.out), by repeat (first | (with_reducible first | exact HK.out | apply KeepBut.set_ | apply keep_drewN | apply keep_drew | apply keep_alloc) | exact HK.out)⟩
                  · rw [if_neg c21] at H
                    exact absurd H (by simp)
                · rw [if_neg c20] at H
                  exact absurd H (by simp)
              · rw [if_neg c18] at H
                exact absurd H (by simp)
            · rw [if_neg c17] at H
              exact absurd H (by simp)
          · rw [if_neg c15] at H
            exact absurd H (by simp)
        · rw [if_neg c14] at H
          exact absurd H (by simp)

/-! ### spec_DrawTripleIs: function 36 -/
def spec_DrawTripleIs.f (k : Nat) (l0 : List Int) : Option (Int × Int × Int) := (spec_l6Open.f l0).bind fun bt161 => ((spec_l92Triple.f k bt161.1 bt161.2).bind fun bt164 => (some (bt164.1, bt164.2.1, bt164.2.2.1)))
theorem spec_DrawTripleIs.mono : ∀ a0 k, LeO (spec_DrawTripleIs.f k a0) (spec_DrawTripleIs.f (k + 1) a0) := by
  intro a0 k
  unfold spec_DrawTripleIs.f
  repeat' first
      | (with_reducible exact spec_l92Triple.mono _ _ _)
      | (with_reducible exact LeO.refl _)
      | (with_reducible exact LeO.none _)
      | (with_reducible refine LeO.ite ?_ ?_)
      | (with_reducible refine LeO.bind ?_ (fun _ => ?_))
      | exact spec_l92Triple.mono _ _ _
      | exact LeO.none _
      | refine LeO.ite ?_ ?_
      | refine LeO.bind ?_ (fun _ => ?_)
set_option maxHeartbeats 8000000 in
set_option maxRecDepth 100000 in
theorem spec_DrawTripleIs.calls (k : Nat) (A0 : Option Addr) (c0 : Nat) (l0 : List Int) (r1 : Int) (r2 : Int) (r3 : Int) (w : World) (hr0 : Kd.C (Kd.int .u8) w A0 l0.length l0) (hc0 : l0.length ≤ c0) (h : spec_DrawTripleIs.f k l0 = some (r1, r2, r3)) :
    Calls Try.prog 36 #[.slice A0 l0.length c0] w fun e w' => e = .returned (.tuple #[.int .i64 r1, .int .i64 r2, .int .i64 r3]) ∧ Below w.heap.size w w' := by
  have HR0 := Aside0.mk hr0
  have HC0 := Aside0.mk hc0
  clear hr0 hc0
  have HB := Aside0.mk (Below.refl w.heap.size w)
  have H : ((spec_l6Open.f l0).bind fun bt161 => ((spec_l92Triple.f k bt161.1 bt161.2).bind fun bt164 => (some (bt164.1, bt164.2.1, bt164.2.2.1)))) = some (r1, r2, r3) := h
  clear h
  replace H := Option.bind_eq_some_iff.mp H
  obtain ⟨⟨t161, t162⟩, A20, H⟩ := H
  replace H : ((spec_l92Triple.f k t161 t162).bind fun bt164 => (some (bt164.1, bt164.2.1, bt164.2.2.1))) = some (r1, r2, r3) := H
  have A2 := Aside0.mk A20
  clear A20
  replace H := Option.bind_eq_some_iff.mp H
  obtain ⟨⟨t164, t165, t166, t167⟩, A30, H⟩ := H
  replace H : (some (t164, t165, t166)) = some (r1, r2, r3) := H
  have A3 := Aside0.mk A30
  clear A30
  simp only [Option.some.injEq, Prod.mk.injEq] at H
  obtain ⟨rfl, rfl, rfl⟩ := H
  go_enter Try.func36, Try.ntmps36
  go_wp2_with (first | ((with_reducible refine gate_callee (f := 46) rfl ?_); refine goesL_ (some 6) rfl rfl Try.func46 (by kernel_rfl) rfl #[.slice A0 l0.length c0] rfl (by (try simp only [List.map_toArray, List.map_cons, List.map_nil]); first | done | rfl | (simp only [List.length_drop, List.length_take]; rfl)) ?_; (with_reducible refine (spec_l6Open.calls _ _ l0 t161 t162 w _ ?side1 ?side2 ?side3 A2.out).mono ?_); (case side1 => repeat (first | (with_reducible first | exact HB.out | apply below_alloc | apply pw_below_drewN | apply below_drew1) | exact HB.out)); (case side2 => exact HR0.out); (case side3 => exact HC0.out); rintro e w4 ⟨g163, rfl, hi, hb, hb2⟩; refine ⟨_, rfl, ?_⟩; have n0_ := Aside0.mk (hb); have n1_ := Aside0.mk (hi); clear HB; have HB := n0_; have HI163 := n1_; clear n0_ n1_; (try clear hb); (try clear hb2); (try clear hk); (try clear hi)) | ((with_reducible refine gate_callee (f := 52) rfl ?_); refine goesL_ (some 7) rfl rfl Try.func52 (by kernel_rfl) rfl #[.pointer (some ⟨g163, 0, none⟩)] rfl (by (try simp only [List.map_toArray, List.map_cons, List.map_nil]); first | done | rfl | (simp only [List.length_drop, List.length_take]; rfl)) ?_; (with_reducible refine (spec_l92Triple.calls k g163 t161 t162 t164 t165 t166 t167 w _ ?side1 ?side2 A3.out).mono ?_); (case side1 => repeat (first | (with_reducible first | exact HI163.out | apply IsS64.alloc | apply IsS64.drewN | apply IsS64.drew | apply IsS64.set_1) | exact HI163.out)); (case side2 => repeat (first | (with_reducible first | exact HB.out | apply below_alloc | apply pw_below_drewN | apply below_drew1 | refine below_set ?_ (IsS64.ge HI163.out)) | exact HB.out)); rintro e w5 ⟨rfl, hi, hb, hk⟩; refine ⟨_, rfl, ?_⟩; have n0_ := Aside0.mk (hb); have n1_ := Aside0.mk (hi); clear HB; clear HI163; have HB := n0_; have HI163 := n1_; clear n0_ n1_; (try clear hb); (try clear hb2); (try clear hk); (try clear hi)))
  go_ret3
  exact ⟨by first | rfl | (simp [errW_none, errW_some] <;> rfl) | (simp [*, errW_none, errW_some] <;> rfl), by repeat (first | (with_reducible first | exact HB.out | apply below_alloc | apply pw_below_drewN | apply below_drew1 | refine below_set ?_ (IsS64.ge HI163.out)) | exact HB.out)⟩

/-! ### impl_FormValid: function 59 -/
def impl_FormValid.l0 : Nat → List Int → List Int → Int → Int → Option (Bool)
  | 0, _, _, _, _ => none
  | k + 1, x0, x5, x6, x7 => if x7 < x6 then (if 0 ≤ x7 then (if x7 < (x5.length : Int) then (if (rd x5 x7) = 0 then (some false) else ((impl_size.f (rd x5 x7)).bind fun t169 => (if t169 > 30 then (some false) else (impl_FormValid.l0 k x0 x5 x6 (wrap64 (x7 + 1)))))) else (none)) else (none)) else (if (x0.length : Int) ≥ 1 then (some (decide ((x0.length : Int) ≤ 4))) else (some false))
def impl_FormValid.f (k : Nat) (l0 : List Int) : Option (Bool) := impl_FormValid.l0 k l0 l0 (l0.length : Int) 0
theorem impl_FormValid.mono_l : ∀ k, (∀ y0 y1 y2 y3, LeO (impl_FormValid.l0 k y0 y1 y2 y3) (impl_FormValid.l0 (k + 1) y0 y1 y2 y3))
  | 0 => fun _ _ _ _ r h => by simp [impl_FormValid.l0] at h
  | k + 1 => by
    have ih0 := impl_FormValid.mono_l k
    · intro y0 y1 y2 y3
      unfold impl_FormValid.l0
      repeat' first
      | (with_reducible exact ih0 _ _ _ _)
      | (with_reducible exact LeO.refl _)
      | (with_reducible exact LeO.none _)
      | (with_reducible refine LeO.ite ?_ ?_)
      | (with_reducible refine LeO.bind ?_ (fun _ => ?_))
      | exact ih0 _ _ _ _
      | exact LeO.none _
      | refine LeO.ite ?_ ?_
      | refine LeO.bind ?_ (fun _ => ?_)
theorem impl_FormValid.mono : ∀ a0 k, LeO (impl_FormValid.f k a0) (impl_FormValid.f (k + 1) a0) := by
  intro a0 k
  have ih0 := impl_FormValid.mono_l k
  unfold impl_FormValid.f
  repeat' first
      | (with_reducible exact ih0 _ _ _ _)
      | (with_reducible exact LeO.refl _)
      | (with_reducible exact LeO.none _)
      | (with_reducible refine LeO.ite ?_ ?_)
      | (with_reducible refine LeO.bind ?_ (fun _ => ?_))
      | exact ih0 _ _ _ _
      | exact LeO.none _
      | refine LeO.ite ?_ ?_
      | refine LeO.bind ?_ (fun _ => ?_)
set_option maxHeartbeats 8000000 in
set_option maxRecDepth 100000 in
theorem impl_FormValid.calls (k : Nat) (A0 : Option Addr) (c0 : Nat) (l0 : List Int) (r : Bool) (w : World) (hr0 : Kd.C (Kd.int .i64) w A0 l0.length l0) (hc0 : l0.length ≤ c0) (h : impl_FormValid.f k l0 = some r) :
    Calls Try.prog 59 #[.slice A0 l0.length c0] w fun e w' => e = .returned (.bool r) ∧ Below w.heap.size w w' := by
  have HR0 := Aside0.mk hr0
  have HC0 := Aside0.mk hc0
  clear hr0 hc0
  have HB := Aside0.mk (Below.refl w.heap.size w)
  have H : (impl_FormValid.l0 k l0 l0 (l0.length : Int) 0) = some r := h
  clear h
  have H' := Aside0.mk H
  clear H
  go_enter Try.func59, Try.ntmps59
  go_wp2
  go_loopg [7] k (fun kq v7 w' => ∃ (x7_1 : Int), v7 = .int .i64 x7_1 ∧ Aside0 (impl_FormValid.l0 kq l0 l0 (l0.length : Int) x7_1 = some r) ∧ Aside0 (kq ≤ k) ∧ Aside0 (Below w.heap.size w w'))
  case atStart => exact ⟨(0), (by first | rfl | (simp; done) | (simp [*]; done)), H', ⟨Nat.le_refl _⟩, ⟨by repeat (first | (with_reducible first | exact HB.out | apply below_alloc | apply pw_below_drewN | apply below_drew1) | exact HB.out)⟩⟩
  case round =>
    clear H'
    obtain ⟨x7_1, rfl, HA, HK1, HB⟩ := hrel
    cases gk with
    | zero => exact absurd HA.out (by simp [impl_FormValid.l0])
    | succ k1 =>
      have H := HA.out
      clear HA
      simp only [impl_FormValid.l0] at H
      by_cases c2 : x7_1 < (l0.length : Int)
      · rw [if_pos c2] at H
        have c2b0 : decide (x7_1 < (l0.length : Int)) = true := decide_eq_true c2
        clear c2
        by_cases c3 : 0 ≤ x7_1
        · rw [if_pos c3] at H
          have c3b0 : decide (0 ≤ x7_1) = true := decide_eq_true c3
          clear c3
          by_cases c4 : x7_1 < (l0.length : Int)
          · rw [if_pos c4] at H
            have c4b0 : decide (x7_1 < (l0.length : Int)) = true := decide_eq_true c4
            clear c4
            by_cases c5 : (rd l0 x7_1) = 0
            · rw [if_pos c5] at H
              have c5b0 : ((rd l0 x7_1) == 0) = true := beq_iff_eq.mpr c5
              have c5b1 : ((rd l0 x7_1) != 0) = false := bne_eq_false_iff_eq.mpr c5
              clear c5
              obtain rfl := Option.some.inj H
              have p168 : 0 ≤ (x7_1 : Int) := of_decide_eq_true (by first | (with_reducible assumption) | assumption)
              have q168 : x7_1 < (l0.length : Int) := of_decide_eq_true (by first | (with_reducible assumption) | assumption)
              obtain ⟨ad168, e168, hx168_0⟩ := Kd.at_int HR0.out x7_1 p168 q168
              cases e168
              replace hx168_0 := (HB.out.cell (World.block_lt_of_cell? w _ hx168_0)).trans hx168_0
              replace p168 := eq_true p168
              replace q168 := eq_true q168
              go_wp2
              go_ret
              exact ⟨by first | rfl | (simp [errW_none, errW_some] <;> rfl) | (simp [*, errW_none, errW_some] <;> rfl), by repeat (first | (with_reducible first | exact HB.out | apply below_alloc | apply pw_below_drewN | apply below_drew1) | exact HB.out)⟩
            · rw [if_neg c5] at H
              have c5b0 : ((rd l0 x7_1) == 0) = false := beq_eq_false_iff_ne.mpr c5
              have c5b1 : ((rd l0 x7_1) != 0) = true := bne_iff_ne.mpr c5
              replace H := Option.bind_eq_some_iff.mp H
              obtain ⟨t169, A60, H⟩ := H
              replace H : (if t169 > 30 then (some false) else (impl_FormValid.l0 k1 l0 l0 (l0.length : Int) (wrap64 (x7_1 + 1)))) = some r := H
              have A6 := Aside0.mk A60
              clear A60
              by_cases c7 : t169 > 30
              · rw [if_pos c7] at H
                have c7b0 : decide (30 < t169) = true := decide_eq_true c7
                clear c7
                obtain rfl := Option.some.inj H
                have p168 : 0 ≤ (x7_1 : Int) := of_decide_eq_true (by first | (with_reducible assumption) | assumption)
                have q168 : x7_1 < (l0.length : Int) := of_decide_eq_true (by first | (with_reducible assumption) | assumption)
                obtain ⟨ad168, e168, hx168_0⟩ := Kd.at_int HR0.out x7_1 p168 q168
                cases e168
                replace hx168_0 := (HB.out.cell (World.block_lt_of_cell? w _ hx168_0)).trans hx168_0
                replace p168 := eq_true p168
                replace q168 := eq_true q168
                go_wp2_with (first | (go_at_call 56; (with_reducible refine (impl_size.calls (rd l0 x7_1) t169 _ A6.out).mono ?_); rintro e w8 ⟨rfl, hb⟩; have n0_ := Aside0.mk (below_step (by repeat (first | (with_reducible first | exact HB.out | apply below_alloc | apply pw_below_drewN | apply below_drew1) | exact HB.out)) hb); clear HB; have HB := n0_; clear n0_; (try clear hb); (try clear hb2); (try clear hk); (try clear hi)))
                go_ret
                exact ⟨by first | rfl | (simp [errW_none, errW_some] <;> rfl) | (simp [*, errW_none, errW_some] <;> rfl), by repeat (first | (with_reducible first | exact HB.out | apply below_alloc | apply pw_below_drewN | apply below_drew1) | exact HB.out)⟩
              · rw [if_neg c7] at H
                have c7b0 : decide (30 < t169) = false := decide_eq_false c7
                clear c7
                have H' := Aside0.mk H
                clear H
                have p168 : 0 ≤ (x7_1 : Int) := of_decide_eq_true (by first | (with_reducible assumption) | assumption)
                have q168 : x7_1 < (l0.length : Int) := of_decide_eq_true (by first | (with_reducible assumption) | assumption)
                obtain ⟨ad168, e168, hx168_0⟩ := Kd.at_int HR0.out x7_1 p168 q168
                cases e168
                replace hx168_0 := (HB.out.cell (World.block_lt_of_cell? w _ hx168_0)).trans hx168_0
                replace p168 := eq_true p168
                replace q168 := eq_true q168
                go_wp2_with (first | (go_at_call 56; (with_reducible refine (impl_size.calls (rd l0 x7_1) t169 _ A6.out).mono ?_); rintro e w9 ⟨rfl, hb⟩; have n0_ := Aside0.mk (below_step (by repeat (first | (with_reducible first | exact HB.out | apply below_alloc | apply pw_below_drewN | apply below_drew1) | exact HB.out)) hb); clear HB; have HB := n0_; clear n0_; (try clear hb); (try clear hb2); (try clear hk); (try clear hi)))
                go_roundg k1
                case measure => have := HK1.out; omega
                case rel => exact ⟨(wrap64 (x7_1 + 1)), (by first | rfl | (simp; done) | (simp [*]; done)), H', ⟨by have := HK1.out; omega⟩, ⟨by repeat (first | (with_reducible first | exact HB.out | apply below_alloc | apply pw_below_drewN | apply below_drew1) | exact HB.out)⟩⟩
          · rw [if_neg c4] at H
            exact absurd H (by simp)
        · rw [if_neg c3] at H
          exact absurd H (by simp)
      · rw [if_neg c2] at H
        have c2b0 : decide (x7_1 < (l0.length : Int)) = false := decide_eq_false c2
        clear c2
        by_cases c10 : (l0.length : Int) ≥ 1
        · rw [if_pos c10] at H
          have c10b0 : decide (1 ≤ (l0.length : Int)) = true := decide_eq_true c10
          have c10b1 : decide (1 ≤ l0.length) = true := decide_eq_true (by omega)
          clear c10
          obtain rfl := Option.some.inj H
          go_wp2
          go_ret
          exact ⟨by first | rfl | (simp [errW_none, errW_some] <;> rfl) | (simp [*, errW_none, errW_some] <;> rfl), by repeat (first | (with_reducible first | exact HB.out | apply below_alloc | apply pw_below_drewN | apply below_drew1) | exact HB.out)⟩
        · rw [if_neg c10] at H
          have c10b0 : decide (1 ≤ (l0.length : Int)) = false := decide_eq_false c10
          have c10b1 : decide (1 ≤ l0.length) = false := decide_eq_false (by omega)
          clear c10
          obtain rfl := Option.some.inj H
          go_wp2
          go_ret
          exact ⟨by first | rfl | (simp [errW_none, errW_some] <;> rfl) | (simp [*, errW_none, errW_some] <;> rfl), by repeat (first | (with_reducible first | exact HB.out | apply below_alloc | apply pw_below_drewN | apply below_drew1) | exact HB.out)⟩

end Go.Proofs.Ytpmhninmblgjoaa.PFnTriple
