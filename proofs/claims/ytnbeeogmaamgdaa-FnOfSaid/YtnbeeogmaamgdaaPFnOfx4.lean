-- Written by a program of this session (wip/print2.py): the functions that the law reaches, plain, and the walks.
import Derived.Test.YtnbeeogmaamgdaaPFnOfx0
import Derived.Test.YtnbeeogmaamgdaaPFnOfx2
import Derived.Test.YtnbeeogmaamgdaaPFnOfx3
namespace Go.Proofs.Ytnbeeogmaamgdaa.PFnOf
open Go.RowKit Go.Proofs.YtnbeeogmaamgdaaW.PrintWords Go.Proofs.YtnbeeogmaamgdaaW.PrintLast Go.Proofs.YtnbeeogmaamgdaaW.PrintMore
attribute [local go_sem] max2_int min2_int max_two min_two max_three min_three max_four min_four   -- for this text's walks alone
set_option linter.unusedVariables false
set_option linter.unusedSimpArgs false

/-! ### slices_Clone_int_int: function 66 -/
/-- A copy, in new memory. -/
def slices_Clone_int_int.f (l0 : List Int) : Option (List Int) := if l0.length < 17592186044416 then some l0 else none
set_option maxHeartbeats 4000000 in
set_option maxRecDepth 100000 in
theorem slices_Clone_int_int.calls (A0 : Option Addr) (c0 : Nat) (l0 : List Int) (r : List Int) (w : World) (hr0 : Kd.C (Kd.int .i64) w A0 l0.length l0) (hc0 : l0.length ≤ c0) (h : slices_Clone_int_int.f l0 = some r) :
    Calls Try.prog 66 #[.slice A0 l0.length c0] w fun e w' => ∃ v0_ : Value, e = .returned (v0_) ∧ Kd.R (Kd.int .i64) 3 w' w.heap.size (fun _ => True) v0_ r ∧ Below w.heap.size w w' := by
  have hl : l0.length < 17592186044416 := by
    unfold slices_Clone_int_int.f at h
    split at h
    · assumption
    · cases h
  have hr : l0 = r := by
    unfold slices_Clone_int_int.f at h; rw [if_pos hl] at h
    exact Option.some.inj h
  have LM := Aside0.mk hl; have HR0 := Aside0.mk hr0; have HC0 := Aside0.mk hc0; have HB := Aside0.mk (Below.refl w.heap.size w); clear h hl hc0; cases A0 with
  | none =>
    have hl0 : l0 = [] := by
      rcases Nat.eq_zero_or_pos l0.length with h0 | h0
      · exact List.eq_nil_of_length_eq_zero h0
      · obtain ⟨ad, he, _⟩ := hr0.2.2 h0
        cases he
    subst hl0; subst hr; clear hr0 LM
    have he := fun (w : World) => Go.run_eql_slice_nil (P := Try.prog) w 23 3 none 0 c0 Try.underlying23
    go_enter Try.func66, Try.ntmps66
    go_wp2
    go_ret
    exact ⟨_, rfl, Kd.R_nil _ _ _ _ _, HB.out⟩
  | some ad =>
    subst hr; clear hr0
    have he := fun (w : World) => Go.run_eql_slice_nil (P := Try.prog) w 23 3 (some ad) l0.length c0 Try.underlying23
    go_enter Try.func66, Try.ntmps66
    go_wp2_with (first | ((with_reducible refine gate_dst (N := 5) rfl ?_); refine Kd.R_lit (Kd.int .i64) _ 3 ?hg (N := 5) ?hd (xs := ([] : List Int)) (inner := []) (ok := fun _ => True) (okp := fun _ => True) ?hr ?hp (fun _ hk => hk) trivial (Below.refl _ _) (Nat.le_refl _) (by simp) ?_; (case hd => rfl); (case hg => rfl); (case hr => first | (go_simp; done) | (go_simp; rfl)); (case hp => exact (Reps.none _ _)); intro v1 w4 ho5 hb hg_ hnew_; clear hg_ hnew_; have n0_ := Aside0.mk ho5; have n1_ := Aside0.mk hb; try clear HB; have HO := n0_; have HB := n1_; clear n0_ n1_ hb ho5) | ((with_reducible refine gate_builtin (b := .append) (xs := #[.tmp 5, .tmp 6]) rfl ?_); at_builtin; refine Kd.R_append_rows (Kd.int .i64) (w0 := w) w.heap.size rfl (.tmp 5) (.tmp 6) 23 3 (.int .i64 0) 8 rfl Try.underlying23 info3 rfl (by decide) (by omega) v1 [] l0 _ _ _ (fun _ => True) (fun _ => False) rfl rfl ?aO ?aR (fun _ _ h => h) (fun _ h => h.elim) ?aF ?aB ?aS ?aL ?_; (case aR => exact Kd.C_below HR0.out HB.out); (case aB => exact HB.out); (case aF => exact (fun _ _ => trivial)); (case aO => exact HO.out); (case aS => exact below_size HB.out); (case aL => have := LM.out; simp; omega); intro v126 w29 ho hb hg hat; have n1_ := Aside0.mk hb; have n2_ := Aside0.mk ho; clear HB HO; have HB := n1_; have HO := n2_; clear n1_ n2_ ho hb hg hat))
    go_ret
    exact ⟨_, rfl, by simpa using HO.out, HB.out⟩

/-! ### impl_lowest: function 58 -/
mutual
def impl_lowest.l0 : Nat → List Int → Int → List (List Int) → Int → Int → List (List Int) → Int → Option ((List (List Int)) × Int × Bool)
  | 0, _, _, _, _, _, _, _ => none
  | k + 1, x0, x6, x20, x21, x22, x146000, x146001 => if x22 < x21 then (if 0 ≤ x22 then (if x22 < (x20.length : Int) then ((slices_Clone_int_int.f (rd_L1 x20 x22)).bind fun t152 => (if t152.length < 17592186044416 then ((impl_gcd.f k (t152 ++ [x6])).bind fun t158 => (impl_lowest.l0 k x0 t158 x20 x21 (wrap64 (x22 + 1)) x146000 x146001)) else (none))) else (none)) else (none)) else (if x146001 < 0 then (impl_lowest.j1 k x0 (wrap64 (-x6)) x146000 x146001) else (impl_lowest.j1 k x0 x6 x146000 x146001))
def impl_lowest.j1 : Nat → List Int → Int → List (List Int) → Int → Option ((List (List Int)) × Int × Bool)
  | 0, _, _, _, _ => none
  | k + 1, x0, x6, x146000, x146001 => if x6 = 0 then (none) else (impl_lowest.l1 k x0 x6 x146000 (x146000.length : Int) 0 ([] : List (List Int)) (wrap64 (Int.tdiv x146001 x6)))
def impl_lowest.l1 : Nat → List Int → Int → List (List Int) → Int → Int → List (List Int) → Int → Option ((List (List Int)) × Int × Bool)
  | 0, _, _, _, _, _, _, _ => none
  | k + 1, x0, x6, x44, x45, x46, x160000, x160001 => if x46 < x45 then (if 0 ≤ x46 then (if x46 < (x44.length : Int) then (impl_lowest.l2 k x0 x6 (([] : List Int)) x44 x45 x46 (rd_L1 x44 x46) ((rd_L1 x44 x46).length : Int) 0 x160000 x160001) else (none)) else (none)) else ((impl_MoveValid.f k x0 x160000 x160001).bind fun t160 => (if t160 = true then (some (x160000, x160001, true)) else (some (([] : List (List Int)), 0, false))))
def impl_lowest.l2 : Nat → List Int → Int → List Int → List (List Int) → Int → Int → List Int → Int → Int → List (List Int) → Int → Option ((List (List Int)) × Int × Bool)
  | 0, _, _, _, _, _, _, _, _, _, _, _ => none
  | k + 1, x0, x6, x12, x44, x45, x46, x51, x52, x53, x160000, x160001 => if x53 < x52 then (if 0 ≤ x53 then (if x53 < (x51.length : Int) then (if x6 = 0 then (none) else (if x12.length < 17592186044416 then (impl_lowest.l2 k x0 x6 (x12 ++ [wrap64 (Int.tdiv (rd x51 x53) x6)]) x44 x45 x46 x51 x52 (wrap64 (x53 + 1)) x160000 x160001) else (none))) else (none)) else (none)) else (if x160000.length < 5864062014805 then (impl_lowest.l1 k x0 x6 x44 x45 (wrap64 (x46 + 1)) (x160000 ++ [x12]) x160001) else (none))
end
def impl_lowest.f (k : Nat) (l0 : List Int) (l1_0 : List (List Int)) (a1_1 : Int) : Option ((List (List Int)) × Int × Bool) := (impl_gcd.f k (([a1_1] : List Int))).bind fun t150 => (impl_lowest.l0 k l0 t150 l1_0 (l1_0.length : Int) 0 l1_0 a1_1)
theorem impl_lowest.mono_l : ∀ k, (∀ y0 y1 y2 y3 y4 y5 y6, LeO (impl_lowest.l0 k y0 y1 y2 y3 y4 y5 y6) (impl_lowest.l0 (k + 1) y0 y1 y2 y3 y4 y5 y6)) ∧ (∀ y0 y1 y2 y3, LeO (impl_lowest.j1 k y0 y1 y2 y3) (impl_lowest.j1 (k + 1) y0 y1 y2 y3)) ∧ (∀ y0 y1 y2 y3 y4 y5 y6, LeO (impl_lowest.l1 k y0 y1 y2 y3 y4 y5 y6) (impl_lowest.l1 (k + 1) y0 y1 y2 y3 y4 y5 y6)) ∧ (∀ y0 y1 y2 y3 y4 y5 y6 y7 y8 y9 y10, LeO (impl_lowest.l2 k y0 y1 y2 y3 y4 y5 y6 y7 y8 y9 y10) (impl_lowest.l2 (k + 1) y0 y1 y2 y3 y4 y5 y6 y7 y8 y9 y10))
  | 0 => ⟨fun _ _ _ _ _ _ _ r h => by simp [impl_lowest.l0] at h, fun _ _ _ _ r h => by simp [impl_lowest.j1] at h, fun _ _ _ _ _ _ _ r h => by simp [impl_lowest.l1] at h, fun _ _ _ _ _ _ _ _ _ _ _ r h => by simp [impl_lowest.l2] at h⟩
  | k + 1 => by
    obtain ⟨ih0, ih1, ih2, ih3⟩ := impl_lowest.mono_l k
    refine ⟨?_, ?_, ?_, ?_⟩ <;> intros <;> (first | unfold impl_lowest.l0 | unfold impl_lowest.j1 | unfold impl_lowest.l1 | unfold impl_lowest.l2) <;> (repeat' first
      | (with_reducible exact ih0 _ _ _ _ _ _ _)
      | (with_reducible exact ih1 _ _ _ _)
      | (with_reducible exact ih2 _ _ _ _ _ _ _)
      | (with_reducible exact ih3 _ _ _ _ _ _ _ _ _ _ _)
      | (with_reducible exact impl_MoveValid.mono _ _ _ _)
      | (with_reducible exact impl_gcd.mono _ _)
      | (with_reducible exact LeO.refl _)
      | (with_reducible exact LeO.none _)
      | (with_reducible refine LeO.ite ?_ ?_)
      | (with_reducible refine LeO.bind ?_ (fun _ => ?_))
      | exact ih0 _ _ _ _ _ _ _
      | exact ih1 _ _ _ _
      | exact ih2 _ _ _ _ _ _ _
      | exact ih3 _ _ _ _ _ _ _ _ _ _ _
      | exact impl_MoveValid.mono _ _ _ _
      | exact impl_gcd.mono _ _
      | exact LeO.none _
      | refine LeO.ite ?_ ?_
      | refine LeO.bind ?_ (fun _ => ?_))
theorem impl_lowest.mono : ∀ a0 a1 a2 k, LeO (impl_lowest.f k a0 a1 a2) (impl_lowest.f (k + 1) a0 a1 a2) := by
  intro a0 a1 a2 k
  obtain ⟨ih0, ih1, ih2, ih3⟩ := impl_lowest.mono_l k
  unfold impl_lowest.f
  repeat' first
      | (with_reducible exact ih0 _ _ _ _ _ _ _)
      | (with_reducible exact ih1 _ _ _ _)
      | (with_reducible exact ih2 _ _ _ _ _ _ _)
      | (with_reducible exact ih3 _ _ _ _ _ _ _ _ _ _ _)
      | (with_reducible exact impl_MoveValid.mono _ _ _ _)
      | (with_reducible exact impl_gcd.mono _ _)
      | (with_reducible exact LeO.refl _)
      | (with_reducible exact LeO.none _)
      | (with_reducible refine LeO.ite ?_ ?_)
      | (with_reducible refine LeO.bind ?_ (fun _ => ?_))
      | exact ih0 _ _ _ _ _ _ _
      | exact ih1 _ _ _ _
      | exact ih2 _ _ _ _ _ _ _
      | exact ih3 _ _ _ _ _ _ _ _ _ _ _
      | exact impl_MoveValid.mono _ _ _ _
      | exact impl_gcd.mono _ _
      | exact LeO.none _
      | refine LeO.ite ?_ ?_
      | refine LeO.bind ?_ (fun _ => ?_)
set_option maxHeartbeats 8000000 in
set_option maxRecDepth 100000 in
theorem impl_lowest.calls (k : Nat) (A0 : Option Addr) (c0 : Nat) (l0 : List Int) (A1_0 : Option Addr) (c1_0 : Nat) (l1_0 : List (List Int)) (a1_1 : Int) (r1 : List (List Int)) (r2 : Int) (r3 : Bool) (w : World) (hr0 : Kd.C (Kd.int .i64) w A0 l0.length l0) (hc0 : l0.length ≤ c0) (hr1_0 : Kd.C (Kd.slice 3 (Kd.int .i64)) w A1_0 l1_0.length l1_0) (hc1_0 : l1_0.length ≤ c1_0) (h : impl_lowest.f k l0 l1_0 a1_1 = some (r1, r2, r3)) :
    Calls Try.prog 58 #[.slice A0 l0.length c0, .agg #[.slice A1_0 l1_0.length c1_0, .int .i64 a1_1]] w fun e w' => ∃ v0_ : Value, e = .returned (.tuple #[.agg #[v0_, .int .i64 r2], .bool r3]) ∧ Kd.S (Kd.slice 3 (Kd.int .i64)) 23 w' w.heap.size (fun _ => True) v0_ r1 ∧ Below w.heap.size w w' := by
  have hu27 := Try.underlying27; have HR0 := Aside0.mk hr0; have HC0 := Aside0.mk hc0; clear hr0 hc0; have HR1_0 := Aside0.mk hr1_0; have HC1_0 := Aside0.mk hc1_0; clear hr1_0 hc1_0; have HB := Aside0.mk (Below.refl w.heap.size w); unfold impl_lowest.f at h; have H := h; clear h; obtain ⟨y147, hy147⟩ : ∃ y_ : List Int, y_ = (([a1_1] : List Int)) := ⟨_, rfl⟩; replace H : ((impl_gcd.f k y147).bind fun t150 => (impl_lowest.l0 k l0 t150 l1_0 (l1_0.length : Int) 0 l1_0 a1_1)) = some (r1, r2, r3) := rH hy147 H; have Ny147 := Aside0.mk hy147; clear hy147; obtain ⟨t150, A3, H⟩ := bnd H; have H' := Aside0.mk H; clear H; go_enter Try.func58, Try.ntmps58
  go_wp2_with (first | ((with_reducible refine gate_dst (N := 3) rfl ?_); refine boxE (N := 3) (cs := #[.slice A1_0 l1_0.length c1_0, .int .i64 a1_1]) (t := 27) ?_; intro gb145 hg w4 hbox hb; have BK145 := Aside0.mk (hbox); have GW145 := GS w hg; have GE145 := GS w hg; replace HB := BS hb; clear hb hbox hg) | ((with_reducible refine gate_dst (N := 4) rfl ?_); refine boxE (N := 4) (cs := #[.slice none 0 0, .int .i64 0]) (t := 27) ?_; intro gb146 hg w5 hbox hb; have BK146 := Aside0.mk (hbox); have GW146 := GS w hg; have GE146 := GS w hg; replace HB := BS hb; have NB145_146 := NL BK145 hg; have NB146_145 := NG BK145 hg; replace BK145 := bB BK145 hb; clear hb hbox hg; have hnb6 := NB145_146.out; have hnc6 := NB146_145.out; obtain ⟨hcz7_0, hcz7_1, hfz7_0, hfz7_1⟩ := bcf BK145) | ((with_reducible refine gate_dst (N := 17) rfl ?_); refine Kd.R_lit (Kd.int .i64) _ 3 ?hg (N := 17) ?hd (xs := ([a1_1] : List Int)) (inner := [.int .i64 a1_1]) (ok := fun _ => True) (okp := fun _ => True) ?hr ?hp (fun _ hk => hk) trivial (Below.refl _ _) (Nat.le_refl _) (by simp) ?_; (case hd => rfl); (case hg => rfl); (case hr => first | (go_simp; done) | (go_simp; rfl)); (case hp => exact (Reps.one (show Kd.M (Kd.int .i64) _ _ _ a1_1 [.int .i64 a1_1] from rfl) (Reps.none _ _))); intro v148 w8 ho9 hb hg_ hnew_; clear hg_ hnew_; (first | rw [← Ny147.out] at ho9 | (simp only [Int.reduceToNat] at ho9; rw [← Ny147.out] at ho9)); have HO149 := Aside0.mk (Kd.R_lower ho9 (below_size BU)); replace BK145 := bB BK145 hb; replace BK146 := bB BK146 hb; replace HB := BS hb; clear hb ho9; obtain ⟨Ao10, co10, eo10⟩ := Kd.R_slice HO149.out; subst eo10) | ((with_reducible refine gate_callee (f := 63) rfl ?_); refine goesK (some 18) Try.func63 #[.slice Ao10 y147.length co10] ?_; (with_reducible refine (impl_gcd.calls k _ _ y147 t150 _ ?side1 ?side2 A3.out).mono ?_); (case side1 => exact U ((Kd.R_reads' HO149.out).2.2)); (case side2 => exact (Kd.R_reads' HO149.out).2.1); rintro e w11 ⟨rfl, hb⟩; refine ⟨_, rfl, ?_⟩; replace HO149 := Aside0.mk (Kd.R_below (U HO149.out) hb); replace BK145 := bB BK145 hb; replace BK146 := bB BK146 hb; replace HB := BS hb; (try clear hb); obtain ⟨hcz12_0, hcz12_1, hfz12_0, hfz12_1⟩ := bcf BK145))
  go_loopg [6, 22] k (fun kq v6 v22 w' => ∃ (x6_1 : Int) (x22_1 : Int), v6 = .int .i64 x6_1 ∧ v22 = .int .i64 x22_1 ∧ Aside0 (impl_lowest.l0 kq l0 x6_1 l1_0 (l1_0.length : Int) x22_1 l1_0 a1_1 = some (r1, r2, r3)) ∧ Aside0 (kq ≤ k) ∧ Aside0 (w'.heap[gb145]? = some (.cells #[(.slice A1_0 l1_0.length c1_0), .int .i64 a1_1] 27 (0, 0))) ∧ Aside0 (w'.heap[gb146]? = some (.cells #[(.slice none 0 0), .int .i64 0] 27 (0, 0))) ∧ Aside0 (Below w.heap.size w w'))
  case atStart => exact ⟨(t150), (0), sR, sR, H', ⟨Nat.le_refl _⟩, ⟨U BK145.out⟩, ⟨U BK146.out⟩, ⟨BU⟩⟩
  case round =>
    clear H'; (try clear hcz12_0); (try clear hcz12_1); (try clear hcz7_0); (try clear hcz7_1); (try clear hfz12_0); (try clear hfz12_1); (try clear hfz7_0); (try clear hfz7_1); obtain ⟨x6_1, x22_1, rfl, rfl, HA, HK1, BK145, BK146, HB⟩ := hrel; cases gk with
    | zero => exact absurd HA.out (by simp [impl_lowest.l0])
    | succ k1 =>
      have H := HA.out; clear HA; simp only [impl_lowest.l0] at H
      by_cases c13 : x22_1 < (l1_0.length : Int)
      · rw [if_pos c13] at H
        have c13b0 : decide (x22_1 < (l1_0.length : Int)) = true := decide_eq_true c13; clear c13; obtain ⟨c14, H⟩ := ifN H; have c14b0 : decide (0 ≤ x22_1) = true := decide_eq_true c14; clear c14; obtain ⟨c15, H⟩ := ifN H; have c15b0 : decide (x22_1 < (l1_0.length : Int)) = true := decide_eq_true c15; clear c15; obtain ⟨t152, A16, H⟩ := bnd H; obtain ⟨c17, H⟩ := ifN H; have LMc17 := Aside0.mk c17; clear c17; obtain ⟨y155, hy155⟩ : ∃ y_ : List Int, y_ = (t152 ++ [x6_1]) := ⟨_, rfl⟩; replace H : ((impl_gcd.f k1 y155).bind fun t158 => (impl_lowest.l0 k1 l0 t158 l1_0 (l1_0.length : Int) (wrap64 (x22_1 + 1)) l1_0 a1_1)) = some (r1, r2, r3) := rH hy155 H; have Ny155 := Aside0.mk hy155; clear hy155; obtain ⟨t158, A18, H⟩ := bnd H; have H' := Aside0.mk H; clear H; have p151 : 0 ≤ (x22_1 : Int) := oD; have q151 : x22_1 < (l1_0.length : Int) := oD; obtain ⟨ad151, A151_0, c151_0, e151, hx151_0, hl151_0, hi151_0⟩ := at_L1 HR1_0.out x22_1 p151 q151; cases e151; replace hx151_0 := (HB.out.cell (World.block_lt_of_cell? w _ hx151_0)).trans hx151_0; have HR151_0 := Aside0.mk hi151_0; have HC151_0 := Aside0.mk hl151_0; clear hi151_0 hl151_0; replace p151 := eq_true p151; replace q151 := eq_true q151
        go_wp2_with (first | ((with_reducible refine gate_callee (f := 66) rfl ?_); refine goesK (some 27) Try.func66 #[.slice A151_0 (rd_L1 l1_0 x22_1).length c151_0] ?_; (with_reducible refine (slices_Clone_int_int.calls _ _ (rd_L1 l1_0 x22_1) t152 _ ?side1 ?side2 A16.out).mono ?_); (case side1 => exact U (Kd.C_below HR151_0.out HB.out)); (case side2 => exact HC151_0.out); rintro e w19 ⟨v153, rfl, ho0, hb⟩; refine ⟨_, rfl, ?_⟩; have HO154 := Aside0.mk (Kd.R_lower ho0 (below_size BU)); replace BK145 := bB BK145 hb; replace BK146 := bB BK146 hb; replace HB := BS hb; (try clear hb); (try clear ho0)) | ((with_reducible refine gate_builtin (b := .append) (xs := #[.tmp 27, .tmp 29]) rfl ?_); at_builtin; refine Kd.R_append (Kd.int .i64) (w0 := w) w.heap.size rfl (.tmp 27) (.tmp 29) 23 3 (.int .i64 0) 8 rfl Try.underlying23 info3 rfl (by decide) (by omega) v153 t152 x6_1 [.int .i64 x6_1] (fun _ => True) (fun _ => False) rfl rfl ?aP (fun _ hk => hk.elim) ?aF ?aO ?aB ?aS ?aL ?_; (case aP => exact rfl); (case aB => exact BU); (case aF => exact (fun _ _ => trivial)); (case aO => exact (U HO154.out)); (case aS => exact (below_size BU)); (case aL => have := LMc17.out; omega); intro v156 w20 ho hb hg hat; rw [← Ny155.out] at ho; have n0_ := bG BK145 hg (Kd.R_ne HO154.out BK145.out (by decide)); have n1_ := bG BK146 hg (Kd.R_ne HO154.out BK146.out (by decide)); have n2_ := Aside0.mk (hb); have n3_ := Aside0.mk (ho); clear BK145; clear BK146; try clear HB; clear HO154; have BK145 := n0_; have BK146 := n1_; have HB := n2_; have HO157 := n3_; clear n0_ n1_ n2_ n3_; clear ho hb hg hat; obtain ⟨Ao21, co21, eo21⟩ := Kd.R_slice HO157.out; subst eo21) | ((with_reducible refine gate_callee (f := 63) rfl ?_); refine goesK (some 31) Try.func63 #[.slice Ao21 y155.length co21] ?_; (with_reducible refine (impl_gcd.calls k1 _ _ y155 t158 _ ?side1 ?side2 A18.out).mono ?_); (case side1 => exact U ((Kd.R_reads' HO157.out).2.2)); (case side2 => exact (Kd.R_reads' HO157.out).2.1); rintro e w22 ⟨rfl, hb⟩; refine ⟨_, rfl, ?_⟩; replace HO157 := Aside0.mk (Kd.R_below (U HO157.out) hb); replace BK145 := bB BK145 hb; replace BK146 := bB BK146 hb; replace HB := BS hb; (try clear hb)))
        go_roundg k1
        case measure => have := HK1.out; omega
        case rel => exact ⟨(t158), (wrap64 (x22_1 + 1)), sR, sR, H', ⟨by have := HK1.out; omega⟩, ⟨U BK145.out⟩, ⟨U BK146.out⟩, ⟨BU⟩⟩
      rw [if_neg c13] at H; have c13b0 : decide (x22_1 < (l1_0.length : Int)) = false := decide_eq_false c13; clear c13; have HC23 := Aside0.mk H; clear H; have hnb24 := NB145_146.out; have hnc24 := NB146_145.out; obtain ⟨hcz25_0, hcz25_1, hfz25_0, hfz25_1⟩ := bcf BK145
      go_upto_if 35 with (fail)
      go_cut [6] (fun v6 wc => ∃ (kq : Nat) (x6_22 : Int), v6 = .int .i64 x6_22 ∧ Aside0 (impl_lowest.j1 kq l0 x6_22 l1_0 a1_1 = some (r1, r2, r3)) ∧ Aside0 (kq ≤ k1) ∧ Aside0 (wc.heap[gb145]? = some (.cells #[(.slice A1_0 l1_0.length c1_0), .int .i64 a1_1] 27 (0, 0))) ∧ Aside0 (wc.heap[gb146]? = some (.cells #[(.slice none 0 0), .int .i64 0] 27 (0, 0))) ∧ Aside0 (Below w.heap.size w wc))
      case first =>
        have H := HC23.out; clear HC23
        by_cases c26 : a1_1 < 0
        · rw [if_pos c26] at H
          have c26b0 : decide (a1_1 < 0) = true := decide_eq_true c26; clear c26
          (first | rw [c26b0] | (simp only [i64_w, i32_w]; rw [c26b0]) | skip)
          have H' := Aside0.mk H; clear H
          go_wp2
          go_meet
          case rel => exact ⟨_, (wrap64 (-x6_1)), sR, H', ⟨by have := HK1.out; first | omega | exact Nat.le_refl _⟩, ⟨U BK145.out⟩, ⟨U BK146.out⟩, ⟨BU⟩⟩
        rw [if_neg c26] at H; have c26b0 : decide (a1_1 < 0) = false := decide_eq_false c26; clear c26
        (first | rw [c26b0] | (simp only [i64_w, i32_w]; rw [c26b0]) | skip)
        have H' := Aside0.mk H; clear H
        go_wp2
        go_meet
        case rel => exact ⟨_, (x6_1), sR, H', ⟨by have := HK1.out; first | omega | exact Nat.le_refl _⟩, ⟨U BK145.out⟩, ⟨U BK146.out⟩, ⟨BU⟩⟩
      case rest =>
        clear HC23; (try clear c13); (try clear c13b0); (try clear hcz12_0); (try clear hcz12_1); (try clear hcz25_0); (try clear hcz25_1); (try clear hcz7_0); (try clear hcz7_1); (try clear hfz12_0); (try clear hfz12_1); (try clear hfz25_0); (try clear hfz25_1); (try clear hfz7_0); (try clear hfz7_1); obtain ⟨kq, x6_22, rfl, HA, HJ22, BK145, BK146, HB⟩ := hcut; cases kq with
        | zero => exact absurd HA.out (by simp [impl_lowest.j1])
        | succ kj22 =>
          have H := HA.out; clear HA; simp only [impl_lowest.j1] at H; obtain ⟨c27, H⟩ := ifM H; have c27b0 : (x6_22 == 0) = false := beq_eq_false_iff_ne.mpr c27; have c27b1 : (x6_22 != 0) = true := bne_iff_ne.mpr c27; have H' := Aside0.mk H; clear H; have hnb28 := NB145_146.out; have hnc28 := NB146_145.out; obtain ⟨hcz29_0, hcz29_1, hfz29_0, hfz29_1⟩ := bcf BK145
          go_wp2_with (first | ((with_reducible refine gate_dst (N := 9) rfl ?_); refine boxE (N := 9) (cs := #[.slice none 0 0, .int .i64 0]) (t := 27) ?_; intro gb159 hg w30 hbox hb; have BK159 := Aside0.mk (hbox); have GW159 := GS w hg; have GE159 := GS w hg; replace HB := BS hb; have NB145_159 := NL BK145 hg; have NB159_145 := NG BK145 hg; replace BK145 := bB BK145 hb; have NB146_159 := NL BK146 hg; have NB159_146 := NG BK146 hg; replace BK146 := bB BK146 hb; clear hb hbox hg; have hnb31 := NB159_145.out; have hnc31 := NB145_159.out; have hnb32 := NB159_146.out; have hnc32 := NB146_159.out; obtain ⟨hcz33_0, hcz33_1, hfz33_0, hfz33_1⟩ := bcf BK159; obtain ⟨hcz34_0, hcz34_1, hfz34_0, hfz34_1⟩ := bcf BK145))
          go_loopg [46] kj22 (fun kq v46 w' => ∃ (x46_3 : Int) (x160000_3 : List (List Int)) (u160000 : Value), v46 = .int .i64 x46_3 ∧ Aside0 (impl_lowest.l1 kq l0 x6_22 l1_0 (l1_0.length : Int) x46_3 x160000_3 (wrap64 (Int.tdiv a1_1 x6_22)) = some (r1, r2, r3)) ∧ Aside0 (kq ≤ kj22) ∧ Aside0 (Kd.S (Kd.slice 3 (Kd.int .i64)) 23 w' w.heap.size (fun _ => True) u160000 x160000_3) ∧ Aside0 (w'.heap[gb145]? = some (.cells #[(.slice A1_0 l1_0.length c1_0), .int .i64 a1_1] 27 (0, 0))) ∧ Aside0 (w'.heap[gb146]? = some (.cells #[(.slice none 0 0), .int .i64 0] 27 (0, 0))) ∧ Aside0 (w'.heap[gb159]? = some (.cells #[u160000, .int .i64 (wrap64 (Int.tdiv a1_1 x6_22))] 27 (0, 0))) ∧ Aside0 (Below w.heap.size w w'))
          case atStart => exact ⟨(0), (([] : List (List Int))), (.slice none 0 0), sR, H', ⟨Nat.le_refl _⟩, ⟨by first | exact Kd.S_nil _ _ _ _ _ | exact Kd.N_nil _ _ _ _ _ | exact Kd.V_nil _ _ _ _ _ | exact Kd.Q_nil _ _ _ _ _ | exact Kd.R_nil _ _ _ _ _⟩, ⟨by (with_reducible repeat (first | refine blk_drewN ?_ _ | refine blk_drew ?_ | refine blk_alloc ?_ _)); refine blk_far ?_ NB145_159.out _; (with_reducible repeat (first | refine blk_drewN ?_ _ | refine blk_drew ?_ | refine blk_alloc ?_ _)); refine blk_far ?_ NB145_159.out _; (with_reducible repeat (first | refine blk_drewN ?_ _ | refine blk_drew ?_ | refine blk_alloc ?_ _)); exact BK145.out⟩, ⟨by (with_reducible repeat (first | refine blk_drewN ?_ _ | refine blk_drew ?_ | refine blk_alloc ?_ _)); refine blk_far ?_ NB146_159.out _; (with_reducible repeat (first | refine blk_drewN ?_ _ | refine blk_drew ?_ | refine blk_alloc ?_ _)); refine blk_far ?_ NB146_159.out _; (with_reducible repeat (first | refine blk_drewN ?_ _ | refine blk_drew ?_ | refine blk_alloc ?_ _)); exact BK146.out⟩, ⟨by (with_reducible repeat (first | refine blk_drewN ?_ _ | refine blk_drew ?_ | refine blk_alloc ?_ _)); refine blk_put (cs := #[.slice none 0 0, .int .i64 0]) ?_ 1 _ rfl; (with_reducible repeat (first | refine blk_drewN ?_ _ | refine blk_drew ?_ | refine blk_alloc ?_ _)); refine blk_put (cs := #[.slice none 0 0, .int .i64 0]) ?_ 0 _ rfl; (with_reducible repeat (first | refine blk_drewN ?_ _ | refine blk_drew ?_ | refine blk_alloc ?_ _)); exact BK159.out⟩, ⟨BU⟩⟩
          case round =>
            clear H'; (try clear c13); (try clear c13b0); (try clear c27); (try clear c27b0); (try clear c27b1); (try clear hcz12_0); (try clear hcz12_1); (try clear hcz25_0); (try clear hcz25_1); (try clear hcz29_0); (try clear hcz29_1); (try clear hcz33_0); (try clear hcz33_1); (try clear hcz34_0); (try clear hcz34_1); (try clear hcz7_0); (try clear hcz7_1); (try clear hfz12_0); (try clear hfz12_1); (try clear hfz25_0); (try clear hfz25_1); (try clear hfz29_0); (try clear hfz29_1); (try clear hfz33_0); (try clear hfz33_1); (try clear hfz34_0); (try clear hfz34_1); (try clear hfz7_0); (try clear hfz7_1); obtain ⟨x46_3, x160000_3, u160000, rfl, HA, HK3, HO_160000, BK145, BK146, BK159, HB⟩ := hrel; cases gk with
            | zero => exact absurd HA.out (by simp [impl_lowest.l1])
            | succ k3 =>
              have H := HA.out; clear HA; simp only [impl_lowest.l1] at H
              by_cases c35 : x46_3 < (l1_0.length : Int)
              · rw [if_pos c35] at H
                have c35b0 : decide (x46_3 < (l1_0.length : Int)) = true := decide_eq_true c35; clear c35; obtain ⟨c36, H⟩ := ifN H; have c36b0 : decide (0 ≤ x46_3) = true := decide_eq_true c36; clear c36; obtain ⟨c37, H⟩ := ifN H; have c37b0 : decide (x46_3 < (l1_0.length : Int)) = true := decide_eq_true c37; clear c37; obtain ⟨y162, hy162⟩ : ∃ y_ : List Int, y_ = (([] : List Int)) := ⟨_, rfl⟩; replace H : (impl_lowest.l2 k3 l0 x6_22 y162 l1_0 (l1_0.length : Int) x46_3 (rd_L1 l1_0 x46_3) ((rd_L1 l1_0 x46_3).length : Int) 0 x160000_3 (wrap64 (Int.tdiv a1_1 x6_22))) = some (r1, r2, r3) := rH hy162 H; have Ny162 := Aside0.mk hy162; clear hy162; have H' := Aside0.mk H; clear H; have p161 : 0 ≤ (x46_3 : Int) := oD; have q161 : x46_3 < (l1_0.length : Int) := oD; obtain ⟨ad161, A161_0, c161_0, e161, hx161_0, hl161_0, hi161_0⟩ := at_L1 HR1_0.out x46_3 p161 q161; cases e161; replace hx161_0 := (HB.out.cell (World.block_lt_of_cell? w _ hx161_0)).trans hx161_0; have HR161_0 := Aside0.mk hi161_0; have HC161_0 := Aside0.mk hl161_0; clear hi161_0 hl161_0; replace p161 := eq_true p161; replace q161 := eq_true q161
                go_wp2_with (first | ((with_reducible refine gate_dst (N := 50) rfl ?_); refine Kd.R_lit (Kd.int .i64) _ 3 ?hg (N := 50) ?hd (xs := ([] : List Int)) (inner := []) (ok := fun _ => True) (okp := fun _ => True) ?hr ?hp (fun _ hk => hk) trivial (Below.refl _ _) (Nat.le_refl _) (by simp) ?_; (case hd => rfl); (case hg => rfl); (case hr => first | (go_simp; done) | (go_simp; rfl)); (case hp => exact (Reps.none _ _)); intro v163 w38 ho39 hb hg_ hnew_; clear hg_ hnew_; (first | rw [← Ny162.out] at ho39 | (simp only [Int.reduceToNat] at ho39; rw [← Ny162.out] at ho39)); replace HO_160000 := Aside0.mk (Kd.S_elder' (U HO_160000.out) (Kd.R_base ho39) hb); have HO164 := Aside0.mk (Kd.R_lower ho39 (below_size BU)); replace BK145 := bB BK145 hb; replace BK146 := bB BK146 hb; replace BK159 := bB BK159 hb; replace HB := BS hb; clear hb ho39))
                go_loopg [12, 53] k3 (fun kq v12 v53 w' => ∃ (x12_4 : List Int) (x53_4 : Int), v53 = .int .i64 x53_4 ∧ Aside0 (impl_lowest.l2 kq l0 x6_22 x12_4 l1_0 (l1_0.length : Int) x46_3 (rd_L1 l1_0 x46_3) ((rd_L1 l1_0 x46_3).length : Int) x53_4 x160000_3 (wrap64 (Int.tdiv a1_1 x6_22)) = some (r1, r2, r3)) ∧ Aside0 (kq ≤ k3) ∧ Aside0 (Kd.R (Kd.int .i64) 3 w' w.heap.size (fun _ => True) v12 x12_4) ∧ Aside0 (Kd.S (Kd.slice 3 (Kd.int .i64)) 23 w' w.heap.size (fun k_ => some k_ ≠ (v12 : Value).ownBlock) u160000 x160000_3) ∧ Aside0 (w'.heap[gb145]? = some (.cells #[(.slice (some ad161) l1_0.length c1_0), .int .i64 a1_1] 27 (0, 0))) ∧ Aside0 (w'.heap[gb146]? = some (.cells #[(.slice none 0 0), .int .i64 0] 27 (0, 0))) ∧ Aside0 (w'.heap[gb159]? = some (.cells #[u160000, .int .i64 (wrap64 (Int.tdiv a1_1 x6_22))] 27 (0, 0))) ∧ Aside0 (Below w.heap.size w w'))
                case atStart => exact ⟨(y162), (0), sR, H', ⟨Nat.le_refl _⟩, ⟨U HO164.out⟩, ⟨Kd.SM HO_160000.out (fun _ hk => hk.2)⟩, ⟨U BK145.out⟩, ⟨U BK146.out⟩, ⟨U BK159.out⟩, ⟨BU⟩⟩
                case round =>
                  clear H'; (try clear c13); (try clear c13b0); (try clear c27); (try clear c27b0); (try clear c27b1); (try clear c35); (try clear c35b0); (try clear c36); (try clear c36b0); (try clear c37); (try clear c37b0); (try clear hcz12_0); (try clear hcz12_1); (try clear hcz25_0); (try clear hcz25_1); (try clear hcz29_0); (try clear hcz29_1); (try clear hcz33_0); (try clear hcz33_1); (try clear hcz34_0); (try clear hcz34_1); (try clear hcz7_0); (try clear hcz7_1); (try clear hfz12_0); (try clear hfz12_1); (try clear hfz25_0); (try clear hfz25_1); (try clear hfz29_0); (try clear hfz29_1); (try clear hfz33_0); (try clear hfz33_1); (try clear hfz34_0); (try clear hfz34_1); (try clear hfz7_0); (try clear hfz7_1); (try clear hx161_0); (try clear p161); (try clear q161); obtain ⟨x12_4, x53_4, rfl, HA, HK4, HO_12, HO_160000, BK145, BK146, BK159, HB⟩ := hrel; cases gk with
                  | zero => exact absurd HA.out (by simp [impl_lowest.l2])
                  | succ k4 =>
                    have H := HA.out; clear HA; simp only [impl_lowest.l2] at H
                    by_cases c40 : x53_4 < ((rd_L1 l1_0 x46_3).length : Int)
                    · rw [if_pos c40] at H
                      have c40b0 : decide (x53_4 < ((rd_L1 l1_0 x46_3).length : Int)) = true := decide_eq_true c40; clear c40; obtain ⟨c41, H⟩ := ifN H; have c41b0 : decide (0 ≤ x53_4) = true := decide_eq_true c41; clear c41; obtain ⟨c42, H⟩ := ifN H; have c42b0 : decide (x53_4 < ((rd_L1 l1_0 x46_3).length : Int)) = true := decide_eq_true c42; clear c42; obtain ⟨c43, H⟩ := ifM H; have c43b0 : (x6_22 == 0) = false := beq_eq_false_iff_ne.mpr c43; have c43b1 : (x6_22 != 0) = true := bne_iff_ne.mpr c43; obtain ⟨c44, H⟩ := ifN H; have LMc44 := Aside0.mk c44; clear c44; obtain ⟨y166, hy166⟩ : ∃ y_ : List Int, y_ = (x12_4 ++ [wrap64 (Int.tdiv (rd (rd_L1 l1_0 x46_3) x53_4) x6_22)]) := ⟨_, rfl⟩; replace H : (impl_lowest.l2 k4 l0 x6_22 y166 l1_0 (l1_0.length : Int) x46_3 (rd_L1 l1_0 x46_3) ((rd_L1 l1_0 x46_3).length : Int) (wrap64 (x53_4 + 1)) x160000_3 (wrap64 (Int.tdiv a1_1 x6_22))) = some (r1, r2, r3) := rH hy166 H; have Ny166 := Aside0.mk hy166; clear hy166; have H' := Aside0.mk H; clear H; have p165 : 0 ≤ (x53_4 : Int) := oD; have q165 : x53_4 < ((rd_L1 l1_0 x46_3).length : Int) := oD; obtain ⟨ad165, e165, hx165_0⟩ := Kd.at_int HR161_0.out x53_4 p165 q165; cases e165; replace hx165_0 := (HB.out.cell (World.block_lt_of_cell? w _ hx165_0)).trans hx165_0; replace p165 := eq_true p165; replace q165 := eq_true q165
                      go_wp2_with (first | ((with_reducible refine gate_builtin (b := .append) (xs := #[.tmp 57, .tmp 61]) rfl ?_); at_builtin; refine Kd.R_append (Kd.int .i64) (w0 := w) w.heap.size rfl (.tmp 57) (.tmp 61) 23 3 (.int .i64 0) 8 rfl Try.underlying23 info3 rfl (by decide) (by omega) u12 x12_4 (wrap64 (Int.tdiv (rd (rd_L1 l1_0 x46_3) x53_4) x6_22)) [.int .i64 (wrap64 (Int.tdiv (rd (rd_L1 l1_0 x46_3) x53_4) x6_22))] (fun _ => True) (fun _ => False) rfl rfl ?aP (fun _ hk => hk.elim) ?aF ?aO ?aB ?aS ?aL ?_; (case aP => exact rfl); (case aB => exact BU); (case aF => exact (fun _ _ => trivial)); (case aO => exact (U HO_12.out)); (case aS => exact (below_size BU)); (case aL => have := LMc44.out; omega); intro v167 w45 ho hb hg hat; rw [← Ny166.out] at ho; have n0_ := Aside0.mk (Kd.S_after (ok := (fun _ => True)) (Kd.SM HO_160000.out (fun _ hk => ⟨trivial, hk⟩)) hg hat); have n1_ := bG BK145 hg (Kd.R_ne HO_12.out BK145.out (by decide)); have n2_ := bG BK146 hg (Kd.R_ne HO_12.out BK146.out (by decide)); have n3_ := bG BK159 hg (Kd.R_ne HO_12.out BK159.out (by decide)); have n4_ := Aside0.mk (hb); have n5_ := Aside0.mk (ho); clear HO_160000; clear BK145; clear BK146; clear BK159; try clear HB; clear HO_12; have HO_160000 := n0_; have BK145 := n1_; have BK146 := n2_; have BK159 := n3_; have HB := n4_; have HO168 := n5_; clear n0_ n1_ n2_ n3_ n4_ n5_; clear ho hb hg hat))
                      go_roundg k4
                      case measure => have := HK1.out; have := HJ22.out; have := HK3.out; have := HK4.out; omega
                      case rel => exact ⟨(y166), (wrap64 (x53_4 + 1)), sR, H', ⟨by have := HK1.out; have := HJ22.out; have := HK3.out; have := HK4.out; omega⟩, ⟨U HO168.out⟩, ⟨Kd.SM HO_160000.out (fun _ hk => hk.2)⟩, ⟨U BK145.out⟩, ⟨U BK146.out⟩, ⟨U BK159.out⟩, ⟨BU⟩⟩
                    rw [if_neg c40] at H; have c40b0 : decide (x53_4 < ((rd_L1 l1_0 x46_3).length : Int)) = false := decide_eq_false c40; clear c40; obtain ⟨c46, H⟩ := ifN H; have LMc46 := Aside0.mk c46; clear c46; obtain ⟨y169, hy169⟩ : ∃ y_ : List (List Int), y_ = (x160000_3 ++ [x12_4]) := ⟨_, rfl⟩; replace H : (impl_lowest.l1 k4 l0 x6_22 l1_0 (l1_0.length : Int) (wrap64 (x46_3 + 1)) y169 (wrap64 (Int.tdiv a1_1 x6_22))) = some (r1, r2, r3) := rH hy169 H; have Ny169 := Aside0.mk hy169; clear hy169; have H' := Aside0.mk H; clear H; have hnb47 := NB159_145.out; have hnc47 := NB145_159.out; have hnb48 := NB159_146.out; have hnc48 := NB146_159.out; obtain ⟨hcz49_0, hcz49_1, hfz49_0, hfz49_1⟩ := bcf BK159; obtain ⟨Ao51, co51, eo51⟩ := Kd.R_slice HO_12.out; subst eo51
                    go_wp2_with (first | ((with_reducible refine gate_builtin (b := .append) (xs := #[.tmp 65, .tmp 67]) rfl ?_); at_builtin; refine Kd.S_append (Kd.slice 3 (Kd.int .i64)) (w0 := w) w.heap.size rfl (.tmp 65) (.tmp 67) 25 23 (.slice none 0 0) 24 rfl Try.underlying25 info23 rfl (by decide) (by omega) u160000 x160000_3 x12_4 [.slice Ao51 x12_4.length co51] (fun _ => True) (fun k_ => some k_ = (.slice Ao51 x12_4.length co51 : Value).ownBlock) rfl rfl ?aP (fun k_ hk_ => ((Kd.R_mono (ok' := fun k_ => ((fun _ => True)) k_ ∧ some k_ ≠ (u160000 : Value).ownBlock) (Kd.R_apart' (HO_12.out) (Kd.S_typed HO_160000.out) (by decide)) (fun k_ hk => ⟨trivial, hk.2⟩))).1 k_ hk_.symm) ?aF ?aO ?aB ?aS ?aL ?_; (case aP => exact Kd.M_row (Kd.R_mono (Kd.R_tight rfl (Kd.R_mono (ok' := fun k_ => ((fun _ => True)) k_ ∧ some k_ ≠ (u160000 : Value).ownBlock) (Kd.R_apart' (HO_12.out) (Kd.S_typed HO_160000.out) (by decide)) (fun k_ hk => ⟨trivial, hk.2⟩))) (fun _ h_ => h_))); (case aB => exact BU); (case aF => exact (fun _ _ => trivial)); (case aO => exact (Kd.SM HO_160000.out (fun k_ hk => ⟨trivial, fun e_ => hk e_⟩))); (case aS => exact (below_size BU)); (case aL => have := LMc46.out; omega); intro v170 w50 ho hb hg hat; rw [← Ny169.out] at ho; have n0_ := bG BK145 hg (Kd.S_ne HO_160000.out BK145.out (by decide)); have n1_ := bG BK146 hg (Kd.S_ne HO_160000.out BK146.out (by decide)); have n2_ := bG BK159 hg (Kd.S_ne HO_160000.out BK159.out (by decide)); have n3_ := Aside0.mk (hb); have n4_ := Aside0.mk (ho); clear BK145; clear BK146; clear BK159; try clear HB; clear HO_160000; clear HO_12; have BK145 := n0_; have BK146 := n1_; have BK159 := n2_; have HB := n3_; have HO171 := n4_; clear n0_ n1_ n2_ n3_ n4_; clear ho hb hg hat; obtain ⟨Ao52, co52, eo52⟩ := Kd.S_slice HO171.out; subst eo52; obtain ⟨hcz53_0, hcz53_1, hfz53_0, hfz53_1⟩ := bcf BK159))
                    go_roundg k4
                    case measure => have := HK1.out; have := HJ22.out; have := HK3.out; have := HK4.out; omega
                    case rel => exact ⟨(wrap64 (x46_3 + 1)), (y169), (.slice Ao52 y169.length co52), sR, H', ⟨by have := HK1.out; have := HJ22.out; have := HK3.out; have := HK4.out; omega⟩, ⟨Kd.SM (Kd.S_far (p := ⟨gb159, 0, none⟩) (Kd.S_types HO171.out BK159.out (by decide)) (fun _ hk => hk.2) (.slice Ao52 y169.length co52)) (fun _ hk => trivial)⟩, ⟨by (with_reducible repeat (first | refine blk_drewN ?_ _ | refine blk_drew ?_ | refine blk_alloc ?_ _)); refine blk_far ?_ NB145_159.out _; (with_reducible repeat (first | refine blk_drewN ?_ _ | refine blk_drew ?_ | refine blk_alloc ?_ _)); exact BK145.out⟩, ⟨by (with_reducible repeat (first | refine blk_drewN ?_ _ | refine blk_drew ?_ | refine blk_alloc ?_ _)); refine blk_far ?_ NB146_159.out _; (with_reducible repeat (first | refine blk_drewN ?_ _ | refine blk_drew ?_ | refine blk_alloc ?_ _)); exact BK146.out⟩, ⟨by (with_reducible repeat (first | refine blk_drewN ?_ _ | refine blk_drew ?_ | refine blk_alloc ?_ _)); refine blk_put (cs := #[u160000, .int .i64 (wrap64 (Int.tdiv a1_1 x6_22))]) ?_ 0 _ rfl; (with_reducible repeat (first | refine blk_drewN ?_ _ | refine blk_drew ?_ | refine blk_alloc ?_ _)); exact BK159.out⟩, ⟨BU⟩⟩
              rw [if_neg c35] at H; have c35b0 : decide (x46_3 < (l1_0.length : Int)) = false := decide_eq_false c35; clear c35; obtain ⟨t160, A54, H⟩ := bnd H
              by_cases c55 : t160 = true
              · subst c55
                replace H := ifT H; simp only [Option.some.injEq, Prod.mk.injEq] at H; obtain ⟨rfl, rfl, rfl⟩ := H; have hnb56 := NB159_145.out; have hnc56 := NB145_159.out; have hnb57 := NB159_146.out; have hnc57 := NB146_159.out; obtain ⟨hcz58_0, hcz58_1, hfz58_0, hfz58_1⟩ := bcf BK159; obtain ⟨Ao59, co59, eo59⟩ := Kd.S_slice HO_160000.out; subst eo59
                go_wp2_with (first | ((with_reducible refine gate_callee (f := 21) rfl ?_); refine goesK (some 73) Try.func21 #[.slice A0 l0.length c0, .agg #[.slice Ao59 x160000_3.length co59, .int .i64 (wrap64 (Int.tdiv a1_1 x6_22))]] ?_; (with_reducible refine (impl_MoveValid.calls k3 _ _ l0 _ _ x160000_3 (wrap64 (Int.tdiv a1_1 x6_22)) true _ ?side1 ?side2 ?side3 ?side4 A54.out).mono ?_); (case side1 => exact U (Kd.C_below HR0.out HB.out)); (case side2 => exact HC0.out); (case side3 => exact U ((Kd.S_reads' HO_160000.out).2.2)); (case side4 => exact (Kd.S_reads' HO_160000.out).2.1); rintro e w60 ⟨rfl, hb⟩; refine ⟨_, rfl, ?_⟩; replace HO_160000 := Aside0.mk (Kd.S_below (U HO_160000.out) hb); replace BK145 := bB BK145 hb; replace BK146 := bB BK146 hb; replace BK159 := bB BK159 hb; replace HB := BS hb; (try clear hb); obtain ⟨hcz61_0, hcz61_1, hfz61_0, hfz61_1⟩ := bcf BK159; have hnb62 := NB146_145.out; have hnc62 := NB145_146.out; obtain ⟨hcz63_0, hcz63_1, hfz63_0, hfz63_1⟩ := bcf BK146))
                refine bodyPost_ret (results_ct rfl _ _ gb146 27 #[.slice Ao59 x160000_3.length co59, .int .i64 (wrap64 (Int.tdiv a1_1 x6_22))] (0, 0) _ rfl (by (with_reducible repeat (first | refine blk_drewN ?_ _ | refine blk_drew ?_ | refine blk_alloc ?_ _)); refine blk_put (cs := #[.slice Ao59 x160000_3.length co59, .int .i64 0]) ?_ 1 _ rfl; (with_reducible repeat (first | refine blk_drewN ?_ _ | refine blk_drew ?_ | refine blk_alloc ?_ _)); refine blk_put (cs := #[.slice none 0 0, .int .i64 0]) ?_ 0 _ rfl; (with_reducible repeat (first | refine blk_drewN ?_ _ | refine blk_drew ?_ | refine blk_alloc ?_ _)); exact BK146.out) Try.underlying27 rfl (by kernel_rfl)) rfl ?_
                exact ⟨_, eR, Kd.SM (Kd.S_far (p := ⟨gb146, 1, none⟩) (Kd.S_far (p := ⟨gb146, 0, none⟩) (Kd.S_types HO_160000.out BK146.out (by decide)) (fun _ hk => hk.2) (.slice Ao59 x160000_3.length co59)) (fun _ hk => hk.2) (.int .i64 (wrap64 (Int.tdiv a1_1 x6_22)))) (fun _ hk => trivial), BU⟩
              replace c55 := Bool.eq_false_iff.mpr c55; subst c55; replace H := ifF H; simp only [Option.some.injEq, Prod.mk.injEq] at H; obtain ⟨rfl, rfl, rfl⟩ := H; have hnb64 := NB159_145.out; have hnc64 := NB145_159.out; have hnb65 := NB159_146.out; have hnc65 := NB146_159.out; obtain ⟨hcz66_0, hcz66_1, hfz66_0, hfz66_1⟩ := bcf BK159; obtain ⟨Ao67, co67, eo67⟩ := Kd.S_slice HO_160000.out; subst eo67
              go_wp2_with (first | ((with_reducible refine gate_callee (f := 21) rfl ?_); refine goesK (some 73) Try.func21 #[.slice A0 l0.length c0, .agg #[.slice Ao67 x160000_3.length co67, .int .i64 (wrap64 (Int.tdiv a1_1 x6_22))]] ?_; (with_reducible refine (impl_MoveValid.calls k3 _ _ l0 _ _ x160000_3 (wrap64 (Int.tdiv a1_1 x6_22)) false _ ?side1 ?side2 ?side3 ?side4 A54.out).mono ?_); (case side1 => exact U (Kd.C_below HR0.out HB.out)); (case side2 => exact HC0.out); (case side3 => exact U ((Kd.S_reads' HO_160000.out).2.2)); (case side4 => exact (Kd.S_reads' HO_160000.out).2.1); rintro e w68 ⟨rfl, hb⟩; refine ⟨_, rfl, ?_⟩; replace HO_160000 := Aside0.mk (Kd.S_below (U HO_160000.out) hb); replace BK145 := bB BK145 hb; replace BK146 := bB BK146 hb; replace BK159 := bB BK159 hb; replace HB := BS hb; (try clear hb); have hnb69 := NB146_145.out; have hnc69 := NB145_146.out; obtain ⟨hcz70_0, hcz70_1, hfz70_0, hfz70_1⟩ := bcf BK146))
              refine bodyPost_ret (results_ct rfl _ _ gb146 27 #[.slice none 0 0, .int .i64 0] (0, 0) _ rfl (by (with_reducible repeat (first | refine blk_drewN ?_ _ | refine blk_drew ?_ | refine blk_alloc ?_ _)); refine blk_put (cs := #[.slice none 0 0, .int .i64 0]) ?_ 1 _ rfl; (with_reducible repeat (first | refine blk_drewN ?_ _ | refine blk_drew ?_ | refine blk_alloc ?_ _)); refine blk_put (cs := #[.slice none 0 0, .int .i64 0]) ?_ 0 _ rfl; (with_reducible repeat (first | refine blk_drewN ?_ _ | refine blk_drew ?_ | refine blk_alloc ?_ _)); exact BK146.out) Try.underlying27 rfl (by kernel_rfl)) rfl ?_
              exact ⟨_, eR, by first | exact Kd.S_nil _ _ _ _ _ | exact Kd.N_nil _ _ _ _ _ | exact Kd.V_nil _ _ _ _ _ | exact Kd.Q_nil _ _ _ _ _ | exact Kd.R_nil _ _ _ _ _, BU⟩

/-! ### impl_product: function 61 -/
def impl_product.l0 : Nat → Int → List Int → Int → Int → Option (Int)
  | 0, _, _, _, _ => none
  | k + 1, x3, x6, x7, x8 => if x8 < x7 then (if 0 ≤ x8 then (if x8 < (x6.length : Int) then (impl_product.l0 k (wrap64 (x3 * (rd x6 x8))) x6 x7 (wrap64 (x8 + 1))) else (none)) else (none)) else (some x3)
def impl_product.f (k : Nat) (l0 : List Int) : Option (Int) := impl_product.l0 k 1 l0 (l0.length : Int) 0
theorem impl_product.mono_l : ∀ k, (∀ y0 y1 y2 y3, LeO (impl_product.l0 k y0 y1 y2 y3) (impl_product.l0 (k + 1) y0 y1 y2 y3))
  | 0 => fun _ _ _ _ r h => by simp [impl_product.l0] at h
  | k + 1 => by
    have ih0 := impl_product.mono_l k
    · intro y0 y1 y2 y3
      unfold impl_product.l0
      repeat' first
      | (with_reducible exact ih0 _ _ _ _)
      | (with_reducible exact LeO.refl _)
      | (with_reducible exact LeO.none _)
      | (with_reducible refine LeO.ite ?_ ?_)
      | (with_reducible refine LeO.bind ?_ (fun _ => ?_))
      | exact ih0 _ _ _ _
      | exact LeO.none _
      | refine LeO.ite ?_ ?_
      | refine LeO.bind ?_ (fun _ => ?_)
theorem impl_product.mono : ∀ a0 k, LeO (impl_product.f k a0) (impl_product.f (k + 1) a0) := by
  intro a0 k
  have ih0 := impl_product.mono_l k
  unfold impl_product.f
  repeat' first
      | (with_reducible exact ih0 _ _ _ _)
      | (with_reducible exact LeO.refl _)
      | (with_reducible exact LeO.none _)
      | (with_reducible refine LeO.ite ?_ ?_)
      | (with_reducible refine LeO.bind ?_ (fun _ => ?_))
      | exact ih0 _ _ _ _
      | exact LeO.none _
      | refine LeO.ite ?_ ?_
      | refine LeO.bind ?_ (fun _ => ?_)
set_option maxHeartbeats 8000000 in
set_option maxRecDepth 100000 in
theorem impl_product.calls (k : Nat) (A0 : Option Addr) (c0 : Nat) (l0 : List Int) (r : Int) (w : World) (hr0 : Kd.C (Kd.int .i64) w A0 l0.length l0) (hc0 : l0.length ≤ c0) (h : impl_product.f k l0 = some r) :
    Calls Try.prog 61 #[.slice A0 l0.length c0] w fun e w' => e = .returned (.int .i64 r) ∧ Drawn0 w w' := by
  have HR0 := Aside0.mk hr0; have HC0 := Aside0.mk hc0; clear hr0 hc0; unfold impl_product.f at h; have H := h; clear h; have H' := Aside0.mk H; clear H; go_enter Try.func61, Try.ntmps61
  go_wp2
  go_loopg [3, 8] k (fun kq v3 v8 w' => ∃ (x3_1 : Int) (x8_1 : Int), v3 = .int .i64 x3_1 ∧ v8 = .int .i64 x8_1 ∧ Aside0 (impl_product.l0 kq x3_1 l0 (l0.length : Int) x8_1 = some r) ∧ Aside0 (kq ≤ k) ∧ Drawn0 w w')
  case atStart => exact ⟨(1), (0), sR, sR, H', ⟨Nat.le_refl _⟩, by repeat (first | exact Drawn0.refl _ | apply Drawn0.step)⟩
  case round =>
    clear H'; obtain ⟨x3_1, x8_1, rfl, rfl, HA, HK1, ⟨m1, rfl⟩⟩ := hrel; cases gk with
    | zero => exact absurd HA.out (by simp [impl_product.l0])
    | succ k1 =>
      have H := HA.out; clear HA; simp only [impl_product.l0] at H
      by_cases c2 : x8_1 < (l0.length : Int)
      · rw [if_pos c2] at H
        have c2b0 : decide (x8_1 < (l0.length : Int)) = true := decide_eq_true c2; clear c2; obtain ⟨c3, H⟩ := ifN H; have c3b0 : decide (0 ≤ x8_1) = true := decide_eq_true c3; clear c3; obtain ⟨c4, H⟩ := ifN H; have c4b0 : decide (x8_1 < (l0.length : Int)) = true := decide_eq_true c4; clear c4; have H' := Aside0.mk H; clear H; have p172 : 0 ≤ (x8_1 : Int) := oD; have q172 : x8_1 < (l0.length : Int) := oD; obtain ⟨ad172, e172, hx172_0⟩ := Kd.at_int HR0.out x8_1 p172 q172; cases e172; replace p172 := eq_true p172; replace q172 := eq_true q172
        go_wp2
        go_roundg k1
        case measure => have := HK1.out; omega
        case rel => exact ⟨(wrap64 (x3_1 * (rd l0 x8_1))), (wrap64 (x8_1 + 1)), sR, sR, H', ⟨by have := HK1.out; omega⟩, by repeat (first | exact Drawn0.refl _ | apply Drawn0.step)⟩
      rw [if_neg c2] at H; have c2b0 : decide (x8_1 < (l0.length : Int)) = false := decide_eq_false c2; clear c2; obtain rfl := Option.some.inj H
      go_wp2
      go_ret
      exact ⟨by first | rfl | (simp; done) | (simp [*]; done), by repeat (first | exact Drawn0.refl _ | apply Drawn0.step)⟩

end Go.Proofs.Ytnbeeogmaamgdaa.PFnOf
