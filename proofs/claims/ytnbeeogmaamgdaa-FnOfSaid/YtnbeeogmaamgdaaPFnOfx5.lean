-- Written by a program of this session (wip/print2.py): the functions that the law reaches, plain, and the walks.
import Derived.Test.YtnbeeogmaamgdaaPFnOfx0
import Derived.Test.YtnbeeogmaamgdaaPFnOfx1
import Derived.Test.YtnbeeogmaamgdaaPFnOfx2
import Derived.Test.YtnbeeogmaamgdaaPFnOfx3
import Derived.Test.YtnbeeogmaamgdaaPFnOfx4
namespace Go.Proofs.Ytnbeeogmaamgdaa.PFnOf
open Go.RowKit Go.Proofs.YtnbeeogmaamgdaaW.PrintWords Go.Proofs.YtnbeeogmaamgdaaW.PrintLast Go.Proofs.YtnbeeogmaamgdaaW.PrintMore
attribute [local go_sem] max2_int min2_int max_two min_two max_three min_three max_four min_four   -- for this text's walks alone
set_option linter.unusedVariables false
set_option linter.unusedSimpArgs false

/-! ### impl_MoveBack: function 19 -/
mutual
def impl_MoveBack.l0 : Nat → List Int → Int → List Int → Int → Int → List (List Int) → Int → List (List Int) → Int → Option ((List (List Int)) × Int × Bool)
  | 0, _, _, _, _, _, _, _, _, _ => none
  | k + 1, x0, x6, x26, x27, x28, x174000, x174001, x179000, x179001 => if x28 < x27 then (if 0 ≤ x28 then (if x28 < (x26.length : Int) then ((impl_column.f k x174000 x174001 x28).bind fun t188 => (impl_MoveBack.l1 k x0 x6 (rd x26 x28) (([] : List Int)) x26 x27 x28 t188 (t188.length : Int) 0 x174000 x174001 x179000 x179001)) else (none)) else (none)) else ((impl_lowest.f k x0 x179000 x179001).bind fun bt179 => (some (bt179.1, bt179.2.1, bt179.2.2)))
def impl_MoveBack.l1 : Nat → List Int → Int → Int → List Int → List Int → Int → Int → List Int → Int → Int → List (List Int) → Int → List (List Int) → Int → Option ((List (List Int)) × Int × Bool)
  | 0, _, _, _, _, _, _, _, _, _, _, _, _, _, _ => none
  | k + 1, x0, x6, x9, x10, x26, x27, x28, x36, x37, x38, x174000, x174001, x179000, x179001 => if x38 < x37 then (if 0 ≤ x38 then (if x38 < (x36.length : Int) then (if x38 < (x0.length : Int) then (if x9 = 0 then (none) else (if x10.length < 17592186044416 then (impl_MoveBack.l1 k x0 x6 x9 (x10 ++ [wrap64 ((wrap64 ((rd x0 x38) * (rd x36 x38))) * (wrap64 (Int.tdiv x6 x9)))]) x26 x27 x28 x36 x37 (wrap64 (x38 + 1)) x174000 x174001 x179000 x179001) else (none))) else (none)) else (none)) else (none)) else (if x179000.length < 5864062014805 then (impl_MoveBack.l0 k x0 x6 x26 x27 (wrap64 (x28 + 1)) x174000 x174001 (x179000 ++ [x10]) x179001) else (none))
end
def impl_MoveBack.f (k : Nat) (l0 : List Int) (l1_0 : List (List Int)) (a1_1 : Int) : Option ((List (List Int)) × Int × Bool) := (impl_MoveValid.f k l0 l1_0 a1_1).bind fun t175 => (if t175 = true then ((impl_product.f k l0).bind fun t176 => ((impl_size.f t176).bind fun t177 => (impl_MoveBack.l0 k l0 t177 l0 (l0.length : Int) 0 l1_0 a1_1 ([] : List (List Int)) (wrap64 (a1_1 * t177))))) else (some (([] : List (List Int)), 0, false)))
theorem impl_MoveBack.mono_l : ∀ k, (∀ y0 y1 y2 y3 y4 y5 y6 y7 y8, LeO (impl_MoveBack.l0 k y0 y1 y2 y3 y4 y5 y6 y7 y8) (impl_MoveBack.l0 (k + 1) y0 y1 y2 y3 y4 y5 y6 y7 y8)) ∧ (∀ y0 y1 y2 y3 y4 y5 y6 y7 y8 y9 y10 y11 y12 y13, LeO (impl_MoveBack.l1 k y0 y1 y2 y3 y4 y5 y6 y7 y8 y9 y10 y11 y12 y13) (impl_MoveBack.l1 (k + 1) y0 y1 y2 y3 y4 y5 y6 y7 y8 y9 y10 y11 y12 y13))
  | 0 => ⟨fun _ _ _ _ _ _ _ _ _ r h => by simp [impl_MoveBack.l0] at h, fun _ _ _ _ _ _ _ _ _ _ _ _ _ _ r h => by simp [impl_MoveBack.l1] at h⟩
  | k + 1 => by
    obtain ⟨ih0, ih1⟩ := impl_MoveBack.mono_l k
    refine ⟨?_, ?_⟩ <;> intros <;> (first | unfold impl_MoveBack.l0 | unfold impl_MoveBack.l1) <;> (repeat' first
      | (with_reducible exact ih0 _ _ _ _ _ _ _ _ _)
      | (with_reducible exact ih1 _ _ _ _ _ _ _ _ _ _ _ _ _ _)
      | (with_reducible exact impl_MoveValid.mono _ _ _ _)
      | (with_reducible exact impl_column.mono _ _ _ _)
      | (with_reducible exact impl_lowest.mono _ _ _ _)
      | (with_reducible exact impl_product.mono _ _)
      | (with_reducible exact LeO.refl _)
      | (with_reducible exact LeO.none _)
      | (with_reducible refine LeO.ite ?_ ?_)
      | (with_reducible refine LeO.bind ?_ (fun _ => ?_))
      | exact ih0 _ _ _ _ _ _ _ _ _
      | exact ih1 _ _ _ _ _ _ _ _ _ _ _ _ _ _
      | exact impl_MoveValid.mono _ _ _ _
      | exact impl_column.mono _ _ _ _
      | exact impl_lowest.mono _ _ _ _
      | exact impl_product.mono _ _
      | exact LeO.none _
      | refine LeO.ite ?_ ?_
      | refine LeO.bind ?_ (fun _ => ?_))
theorem impl_MoveBack.mono : ∀ a0 a1 a2 k, LeO (impl_MoveBack.f k a0 a1 a2) (impl_MoveBack.f (k + 1) a0 a1 a2) := by
  intro a0 a1 a2 k
  obtain ⟨ih0, ih1⟩ := impl_MoveBack.mono_l k
  unfold impl_MoveBack.f
  repeat' first
      | (with_reducible exact ih0 _ _ _ _ _ _ _ _ _)
      | (with_reducible exact ih1 _ _ _ _ _ _ _ _ _ _ _ _ _ _)
      | (with_reducible exact impl_MoveValid.mono _ _ _ _)
      | (with_reducible exact impl_column.mono _ _ _ _)
      | (with_reducible exact impl_lowest.mono _ _ _ _)
      | (with_reducible exact impl_product.mono _ _)
      | (with_reducible exact LeO.refl _)
      | (with_reducible exact LeO.none _)
      | (with_reducible refine LeO.ite ?_ ?_)
      | (with_reducible refine LeO.bind ?_ (fun _ => ?_))
      | exact ih0 _ _ _ _ _ _ _ _ _
      | exact ih1 _ _ _ _ _ _ _ _ _ _ _ _ _ _
      | exact impl_MoveValid.mono _ _ _ _
      | exact impl_column.mono _ _ _ _
      | exact impl_lowest.mono _ _ _ _
      | exact impl_product.mono _ _
      | exact LeO.none _
      | refine LeO.ite ?_ ?_
      | refine LeO.bind ?_ (fun _ => ?_)
def impl_MoveBack.T12 : Bool × List (List Nat × List Nat) := (true, [([], []), ([], []), ([], []), ([1, 2], [1, 2]), ([3], [3]), ([], []), ([4, 5], [4, 5]), ([], []), ([], []), ([7, 8], [7, 8]), ([6, 9], [6, 9]), ([10], [10]), ([0, 11], [0, 11]), ([12, 12, 0, 1, 2, 3, 4, 5, 6, 7, 8, 9, 10, 11, 12], [0, 12])])
def impl_MoveBack.B12 : List Nat := [0, 0, 0, 6, 14, 0, 62, 0, 0, 384, 1022, 2046, 4095, 8191]
theorem impl_MoveBack.tab12 : rtab .any (opsOf Try.f19 12) = impl_MoveBack.T12 := by kernel_rfl
theorem impl_MoveBack.bits12 : waitsOk impl_MoveBack.T12.2 impl_MoveBack.B12 = true := by kernel_rfl
set_option maxHeartbeats 8000000 in
set_option maxRecDepth 100000 in
theorem impl_MoveBack.calls (k : Nat) (A0 : Option Addr) (c0 : Nat) (l0 : List Int) (A1_0 : Option Addr) (c1_0 : Nat) (l1_0 : List (List Int)) (a1_1 : Int) (r1 : List (List Int)) (r2 : Int) (r3 : Bool) (w : World) (hr0 : Kd.C (Kd.int .i64) w A0 l0.length l0) (hc0 : l0.length ≤ c0) (hr1_0 : Kd.C (Kd.slice 3 (Kd.int .i64)) w A1_0 l1_0.length l1_0) (hc1_0 : l1_0.length ≤ c1_0) (h : impl_MoveBack.f k l0 l1_0 a1_1 = some (r1, r2, r3)) :
    Calls Try.prog 19 #[.slice A0 l0.length c0, .agg #[.slice A1_0 l1_0.length c1_0, .int .i64 a1_1]] w fun e w' => ∃ v0_ : Value, e = .returned (.tuple #[.agg #[v0_, .int .i64 r2], .bool r3]) ∧ Kd.S (Kd.slice 3 (Kd.int .i64)) 23 w' w.heap.size (fun _ => True) v0_ r1 ∧ Below w.heap.size w w' := by
  have hu27 := Try.underlying27; have HR0 := Aside0.mk hr0; have HC0 := Aside0.mk hc0; clear hr0 hc0; have HR1_0 := Aside0.mk hr1_0; have HC1_0 := Aside0.mk hc1_0; clear hr1_0 hc1_0; have HB := Aside0.mk (Below.refl w.heap.size w); unfold impl_MoveBack.f at h; have H := h; clear h; obtain ⟨t175, A3, H⟩ := bnd H
  by_cases c4 : t175 = true
  · subst c4
    replace H := ifT H; obtain ⟨t176, A5, H⟩ := bnd H; obtain ⟨t177, A6, H⟩ := bnd H; have H' := Aside0.mk H; clear H; go_enter Try.func19, Try.ntmps19
    go_wp2_with (first | ((with_reducible refine gate_dst (N := 3) rfl ?_); refine boxE (N := 3) (cs := #[.slice A1_0 l1_0.length c1_0, .int .i64 a1_1]) (t := 27) ?_; intro gb173 hg w7 hbox hb; have BK173 := Aside0.mk (hbox); have GW173 := GS w hg; have GE173 := GS w hg; replace HB := BS hb; clear hb hbox hg) | ((with_reducible refine gate_dst (N := 4) rfl ?_); refine boxE (N := 4) (cs := #[.slice none 0 0, .int .i64 0]) (t := 27) ?_; intro gb174 hg w8 hbox hb; have BK174 := Aside0.mk (hbox); have GW174 := GS w hg; have GE174 := GS w hg; replace HB := BS hb; have NB173_174 := NL BK173 hg; have NB174_173 := NG BK173 hg; replace BK173 := bB BK173 hb; clear hb hbox hg; have hnb9 := NB173_174.out; have hnc9 := NB174_173.out; obtain ⟨hcz10_0, hcz10_1, hfz10_0, hfz10_1⟩ := bcf BK173) | ((with_reducible refine gate_callee (f := 21) rfl ?_); refine goesK (some 15) Try.func21 #[.slice A0 l0.length c0, .agg #[.slice A1_0 l1_0.length c1_0, .int .i64 a1_1]] ?_; (with_reducible refine (impl_MoveValid.calls k _ _ l0 _ _ l1_0 a1_1 true _ ?side1 ?side2 ?side3 ?side4 A3.out).mono ?_); (case side1 => exact U (Kd.C_below HR0.out HB.out)); (case side2 => exact HC0.out); (case side3 => exact U (Kd.C_below HR1_0.out HB.out)); (case side4 => exact HC1_0.out); rintro e w11 ⟨rfl, hb⟩; refine ⟨_, rfl, ?_⟩; replace BK173 := bB BK173 hb; replace BK174 := bB BK174 hb; replace HB := BS hb; (try clear hb)) | ((with_reducible refine gate_callee (f := 61) rfl ?_); refine goesK (some 19) Try.func61 #[.slice A0 l0.length c0] ?_; (with_reducible refine (impl_product.calls k _ _ l0 t176 _ ?side1 ?side2 A5.out).mono ?_); (case side1 => exact U (Kd.C_below HR0.out HB.out)); (case side2 => exact HC0.out); rintro e w' ⟨rfl, ⟨nd, rfl⟩⟩; refine ⟨_, rfl, ?_⟩; (try (rw [drewN_self w11]; generalize hq_ : World.drewN w11 _ = w11; have n0_ : Aside0 (w11.heap[gb173]? = some (.cells #[.slice A1_0 l1_0.length c1_0, .int .i64 a1_1] 27 (0, 0))) := ⟨by rw [← hq_]; exact (U BK173.out)⟩; have n1_ : Aside0 (w11.heap[gb174]? = some (.cells #[.slice none 0 0, .int .i64 0] 27 (0, 0))) := ⟨by rw [← hq_]; exact (U BK174.out)⟩; have n2_ : Aside0 (Below w.heap.size w w11) := ⟨by rw [← hq_]; exact BU⟩; clear BK173 BK174 HB hq_; have BK173 := n0_; have BK174 := n1_; have HB := n2_; clear n0_ n1_ n2_))) | ((with_reducible refine gate_callee (f := 60) rfl ?_); refine goesK (some 20) Try.func60 #[.int .i64 t176] ?_; (with_reducible refine (impl_size.calls t176 t177 _ A6.out).mono ?_); rintro e w12 ⟨rfl, hb⟩; refine ⟨_, rfl, ?_⟩; replace BK173 := bB BK173 hb; replace BK174 := bB BK174 hb; replace HB := BS hb; (try clear hb); obtain ⟨hcz13_0, hcz13_1, hfz13_0, hfz13_1⟩ := bcf BK173) | ((with_reducible refine gate_dst (N := 7) rfl ?_); refine boxE (N := 7) (cs := #[.slice none 0 0, .int .i64 0]) (t := 27) ?_; intro gb178 hg w14 hbox hb; have BK178 := Aside0.mk (hbox); have GW178 := GS w hg; have GE178 := GS w hg; replace HB := BS hb; have NB173_178 := NL BK173 hg; have NB178_173 := NG BK173 hg; replace BK173 := bB BK173 hb; have NB174_178 := NL BK174 hg; have NB178_174 := NG BK174 hg; replace BK174 := bB BK174 hb; clear hb hbox hg; have hnb15 := NB178_173.out; have hnc15 := NB173_178.out; have hnb16 := NB178_174.out; have hnc16 := NB174_178.out; obtain ⟨hcz17_0, hcz17_1, hfz17_0, hfz17_1⟩ := bcf BK178))
    go_loopg [28] k (fun kq v28 w' => ∃ (x28_1 : Int) (x179000_1 : List (List Int)) (u179000 : Value), v28 = .int .i64 x28_1 ∧ Aside0 (impl_MoveBack.l0 kq l0 t177 l0 (l0.length : Int) x28_1 l1_0 a1_1 x179000_1 (wrap64 (a1_1 * t177)) = some (r1, r2, r3)) ∧ Aside0 (kq ≤ k) ∧ Aside0 (Kd.S (Kd.slice 3 (Kd.int .i64)) 23 w' w.heap.size (fun _ => True) u179000 x179000_1) ∧ Aside0 (w'.heap[gb173]? = some (.cells #[(.slice A1_0 l1_0.length c1_0), .int .i64 a1_1] 27 (0, 0))) ∧ Aside0 (w'.heap[gb174]? = some (.cells #[(.slice none 0 0), .int .i64 0] 27 (0, 0))) ∧ Aside0 (w'.heap[gb178]? = some (.cells #[u179000, .int .i64 (wrap64 (a1_1 * t177))] 27 (0, 0))) ∧ Aside0 (Below w.heap.size w w'))
    case atStart => exact ⟨(0), (([] : List (List Int))), (.slice none 0 0), sR, H', ⟨Nat.le_refl _⟩, ⟨by first | exact Kd.S_nil _ _ _ _ _ | exact Kd.N_nil _ _ _ _ _ | exact Kd.V_nil _ _ _ _ _ | exact Kd.Q_nil _ _ _ _ _ | exact Kd.R_nil _ _ _ _ _⟩, ⟨by (with_reducible repeat (first | refine blk_drewN ?_ _ | refine blk_drew ?_ | refine blk_alloc ?_ _)); refine blk_far ?_ NB173_178.out _; (with_reducible repeat (first | refine blk_drewN ?_ _ | refine blk_drew ?_ | refine blk_alloc ?_ _)); refine blk_far ?_ NB173_178.out _; (with_reducible repeat (first | refine blk_drewN ?_ _ | refine blk_drew ?_ | refine blk_alloc ?_ _)); exact BK173.out⟩, ⟨by (with_reducible repeat (first | refine blk_drewN ?_ _ | refine blk_drew ?_ | refine blk_alloc ?_ _)); refine blk_far ?_ NB174_178.out _; (with_reducible repeat (first | refine blk_drewN ?_ _ | refine blk_drew ?_ | refine blk_alloc ?_ _)); refine blk_far ?_ NB174_178.out _; (with_reducible repeat (first | refine blk_drewN ?_ _ | refine blk_drew ?_ | refine blk_alloc ?_ _)); exact BK174.out⟩, ⟨by (with_reducible repeat (first | refine blk_drewN ?_ _ | refine blk_drew ?_ | refine blk_alloc ?_ _)); refine blk_put (cs := #[.slice none 0 0, .int .i64 0]) ?_ 1 _ rfl; (with_reducible repeat (first | refine blk_drewN ?_ _ | refine blk_drew ?_ | refine blk_alloc ?_ _)); refine blk_put (cs := #[.slice none 0 0, .int .i64 0]) ?_ 0 _ rfl; (with_reducible repeat (first | refine blk_drewN ?_ _ | refine blk_drew ?_ | refine blk_alloc ?_ _)); exact BK178.out⟩, ⟨BU⟩⟩
    case round =>
      clear H'; (try clear c4); (try clear hcz10_0); (try clear hcz10_1); (try clear hcz13_0); (try clear hcz13_1); (try clear hcz17_0); (try clear hcz17_1); (try clear hfz10_0); (try clear hfz10_1); (try clear hfz13_0); (try clear hfz13_1); (try clear hfz17_0); (try clear hfz17_1); obtain ⟨x28_1, x179000_1, u179000, rfl, HA, HK1, HO_179000, BK173, BK174, BK178, HB⟩ := hrel; cases gk with
      | zero => exact absurd HA.out (by simp [impl_MoveBack.l0])
      | succ k1 =>
        have H := HA.out; clear HA; simp only [impl_MoveBack.l0] at H
        by_cases c18 : x28_1 < (l0.length : Int)
        · rw [if_pos c18] at H
          have c18b0 : decide (x28_1 < (l0.length : Int)) = true := decide_eq_true c18; clear c18; obtain ⟨c19, H⟩ := ifN H; have c19b0 : decide (0 ≤ x28_1) = true := decide_eq_true c19; clear c19; obtain ⟨c20, H⟩ := ifN H; have c20b0 : decide (x28_1 < (l0.length : Int)) = true := decide_eq_true c20; clear c20; obtain ⟨y185, hy185⟩ : ∃ y_ : List Int, y_ = (([] : List Int)) := ⟨_, rfl⟩; replace H : ((impl_column.f k1 l1_0 a1_1 x28_1).bind fun t188 => (impl_MoveBack.l1 k1 l0 t177 (rd l0 x28_1) y185 l0 (l0.length : Int) x28_1 t188 (t188.length : Int) 0 l1_0 a1_1 x179000_1 (wrap64 (a1_1 * t177)))) = some (r1, r2, r3) := rH hy185 H; have Ny185 := Aside0.mk hy185; clear hy185; obtain ⟨t188, A21, H⟩ := bnd H; have H' := Aside0.mk H; clear H; have p184 : 0 ≤ (x28_1 : Int) := oD; have q184 : x28_1 < (l0.length : Int) := oD; obtain ⟨ad184, e184, hx184_0⟩ := Kd.at_int HR0.out x28_1 p184 q184; cases e184; replace hx184_0 := (HB.out.cell (World.block_lt_of_cell? w _ hx184_0)).trans hx184_0; replace p184 := eq_true p184; replace q184 := eq_true q184
          go_wp2_with (first | ((with_reducible refine gate_dst (N := 33) rfl ?_); refine Kd.R_lit (Kd.int .i64) _ 3 ?hg (N := 33) ?hd (xs := ([] : List Int)) (inner := []) (ok := fun _ => True) (okp := fun _ => True) ?hr ?hp (fun _ hk => hk) trivial (Below.refl _ _) (Nat.le_refl _) (by simp) ?_; (case hd => rfl); (case hg => rfl); (case hr => first | (go_simp; done) | (go_simp; rfl)); (case hp => exact (Reps.none _ _)); intro v186 w22 ho23 hb hg_ hnew_; clear hg_ hnew_; (first | rw [← Ny185.out] at ho23 | (simp only [Int.reduceToNat] at ho23; rw [← Ny185.out] at ho23)); replace HO_179000 := Aside0.mk (Kd.S_elder' (U HO_179000.out) (Kd.R_base ho23) hb); have HO187 := Aside0.mk (Kd.R_lower ho23 (below_size BU)); replace BK173 := bB BK173 hb; replace BK174 := bB BK174 hb; replace BK178 := bB BK178 hb; replace HB := BS hb; clear hb ho23; have hnb24 := NB173_174.out; have hnc24 := NB174_173.out; have hnb25 := NB173_178.out; have hnc25 := NB178_173.out; obtain ⟨hcz26_0, hcz26_1, hfz26_0, hfz26_1⟩ := bcf BK173) | ((with_reducible refine gate_callee (f := 59) rfl ?_); refine goesK (some 36) Try.func59 #[.agg #[.slice A1_0 l1_0.length c1_0, .int .i64 a1_1], .int .i64 x28_1] ?_; (with_reducible refine (impl_column.calls k1 _ _ l1_0 a1_1 x28_1 t188 _ ?side1 ?side2 A21.out).mono ?_); (case side1 => exact U (Kd.C_below HR1_0.out HB.out)); (case side2 => exact HC1_0.out); rintro e w27 ⟨v189, rfl, ho0, hb⟩; refine ⟨_, rfl, ?_⟩; replace HO_179000 := Aside0.mk (Kd.S_elder' (U HO_179000.out) (Kd.R_base ho0) hb); have HO190 := Aside0.mk (Kd.R_lower (Kd.R_new' ho0 (Kd.R_lt (U HO187.out))) (below_size BU)); replace HO187 := Aside0.mk (Kd.R_elder' (U HO187.out) (Kd.R_base ho0) hb); replace BK173 := bB BK173 hb; replace BK174 := bB BK174 hb; replace BK178 := bB BK178 hb; replace HB := BS hb; (try clear hb); (try clear ho0); obtain ⟨Ao28, co28, eo28⟩ := Kd.R_slice HO190.out; subst eo28))
          go_loopg [10, 38] k1 (fun kq v10 v38 w' => ∃ (x10_2 : List Int) (x38_2 : Int), v38 = .int .i64 x38_2 ∧ Aside0 (impl_MoveBack.l1 kq l0 t177 (rd l0 x28_1) x10_2 l0 (l0.length : Int) x28_1 t188 (t188.length : Int) x38_2 l1_0 a1_1 x179000_1 (wrap64 (a1_1 * t177)) = some (r1, r2, r3)) ∧ Aside0 (kq ≤ k1) ∧ Aside0 (Kd.R (Kd.int .i64) 3 w' w.heap.size (fun k_ => some k_ ≠ ((.slice Ao28 t188.length co28) : Value).ownBlock) v10 x10_2) ∧ Aside0 (Kd.R (Kd.int .i64) 3 w' w.heap.size (fun k_ => some k_ ≠ (v10 : Value).ownBlock) (.slice Ao28 t188.length co28) t188) ∧ Aside0 (Kd.S (Kd.slice 3 (Kd.int .i64)) 23 w' w.heap.size (fun k_ => some k_ ≠ (v10 : Value).ownBlock ∧ some k_ ≠ ((.slice Ao28 t188.length co28) : Value).ownBlock) u179000 x179000_1) ∧ Aside0 (w'.heap[gb173]? = some (.cells #[(.slice A1_0 l1_0.length c1_0), .int .i64 a1_1] 27 (0, 0))) ∧ Aside0 (w'.heap[gb174]? = some (.cells #[(.slice none 0 0), .int .i64 0] 27 (0, 0))) ∧ Aside0 (w'.heap[gb178]? = some (.cells #[u179000, .int .i64 (wrap64 (a1_1 * t177))] 27 (0, 0))) ∧ Aside0 (Below w.heap.size w w'))
          case atStart => exact ⟨(y185), (0), sR, H', ⟨Nat.le_refl _⟩, ⟨Kd.RM HO187.out (fun _ hk => hk.2)⟩, ⟨Kd.RM HO190.out (fun _ hk => hk.2)⟩, ⟨Kd.SM HO_179000.out (fun _ hk => ⟨hk.1.2, hk.2⟩)⟩, ⟨U BK173.out⟩, ⟨U BK174.out⟩, ⟨U BK178.out⟩, ⟨BU⟩⟩
          case round =>
            clear H'; (try clear c4); (try clear c18); (try clear c18b0); (try clear c19); (try clear c19b0); (try clear c20); (try clear c20b0); (try clear hcz10_0); (try clear hcz10_1); (try clear hcz13_0); (try clear hcz13_1); (try clear hcz17_0); (try clear hcz17_1); (try clear hcz26_0); (try clear hcz26_1); (try clear hfz10_0); (try clear hfz10_1); (try clear hfz13_0); (try clear hfz13_1); (try clear hfz17_0); (try clear hfz17_1); (try clear hfz26_0); (try clear hfz26_1); (try clear hx184_0); (try clear p184); (try clear q184); obtain ⟨x10_2, x38_2, rfl, HA, HK2, HO_10, HO_36, HO_179000, BK173, BK174, BK178, HB⟩ := hrel; cases gk with
            | zero => exact absurd HA.out (by simp [impl_MoveBack.l1])
            | succ k2 =>
              have H := HA.out; clear HA; simp only [impl_MoveBack.l1] at H
              by_cases c29 : x38_2 < (t188.length : Int)
              · rw [if_pos c29] at H
                have c29b0 : decide (x38_2 < (t188.length : Int)) = true := decide_eq_true c29; clear c29; obtain ⟨c30, H⟩ := ifN H; have c30b0 : decide (0 ≤ x38_2) = true := decide_eq_true c30; clear c30; obtain ⟨c31, H⟩ := ifN H; have c31b0 : decide (x38_2 < (t188.length : Int)) = true := decide_eq_true c31; clear c31; obtain ⟨c32, H⟩ := ifN H; have c32b0 : decide (x38_2 < (l0.length : Int)) = true := decide_eq_true c32; clear c32; obtain ⟨c33, H⟩ := ifM H; have c33b0 : ((rd l0 x28_1) == 0) = false := beq_eq_false_iff_ne.mpr c33; have c33b1 : ((rd l0 x28_1) != 0) = true := bne_iff_ne.mpr c33; obtain ⟨c34, H⟩ := ifN H; have LMc34 := Aside0.mk c34; clear c34; obtain ⟨y193, hy193⟩ : ∃ y_ : List Int, y_ = (x10_2 ++ [wrap64 ((wrap64 ((rd l0 x38_2) * (rd t188 x38_2))) * (wrap64 (Int.tdiv t177 (rd l0 x28_1))))]) := ⟨_, rfl⟩; replace H : (impl_MoveBack.l1 k2 l0 t177 (rd l0 x28_1) y193 l0 (l0.length : Int) x28_1 t188 (t188.length : Int) (wrap64 (x38_2 + 1)) l1_0 a1_1 x179000_1 (wrap64 (a1_1 * t177))) = some (r1, r2, r3) := rH hy193 H; have Ny193 := Aside0.mk hy193; clear hy193; have H' := Aside0.mk H; clear H; have p191 : 0 ≤ (x38_2 : Int) := oD; have q191 : x38_2 < (t188.length : Int) := oD; obtain ⟨ad191, e191, hx191_0⟩ := Kd.at_int (Kd.R_reads' HO_36.out).2.2 x38_2 p191 q191; cases e191; replace p191 := eq_true p191; replace q191 := eq_true q191
                try go_wp2
                replace HO_10 := Aside0.mk (Kd.R_drew HO_10.out); replace HO_36 := Aside0.mk (Kd.R_drew HO_36.out); replace HO_179000 := Aside0.mk (Kd.S_drew HO_179000.out); replace BK173 := Aside0.mk (blk_drew BK173.out); replace BK174 := Aside0.mk (blk_drew BK174.out); replace BK178 := Aside0.mk (blk_drew BK178.out); replace HB := Aside0.mk (below_drew1 HB.out); have p192 : 0 ≤ (x38_2 : Int) := oD; have q192 : x38_2 < (l0.length : Int) := oD; obtain ⟨ad192, e192, hx192_0⟩ := Kd.at_int HR0.out x38_2 p192 q192; have hw192_0 := hx192_0; obtain rfl : ad184 = ad192 := (by injection e192); replace hx192_0 := (HB.out.cell (World.block_lt_of_cell? w _ hx192_0)).trans hx192_0; replace p192 := eq_true p192; replace q192 := eq_true q192
                refine start_ (n := 14) (S := fun w' => w'.cell? (ad184.add (x38_2).toNat) = some (.int .i64 (rd l0 x38_2))) (ds := []) #[false, false, false, false, false, false, false, false, false, false, false, false, false, false] (by kernel_rfl) rfl rfl (((HB.out.cell (World.block_lt_of_cell? w _ hw192_0)).trans hw192_0)) (fun hHeld => ?_); refine with_tabW impl_MoveBack.tab12 impl_MoveBack.bits12 (fun HT_ HW_ => ?_)
                generalize wr.drew = w35 at HO_10 HO_36 HO_179000 BK173 BK174 BK178 HB hx192_0 hHeld ⊢
                refine pure_ (i := 0) (N := some 43) (v := ?_) (a' := ?_) #[true, false, false, false, false, false, false, false, false, false, false, false, false, false] rfl rfl (any_of HT_.out (by kernel_rfl)) (fun _ _ _ h => h) (Or.inl ⟨by rfl, ?_⟩) ?_ ?_
                rotate_left
                · intro w'
                  go_simp
                  with_reducible rfl
                rotate_left
                · simp only [Act.put, List.setIfInBounds_toArray, List.set_cons_zero, List.set_cons_succ, i64_w, i32_w]
                  rfl
                refine pure_ (i := 1) (N := some 44) (v := ?_) (a' := ?_) #[true, true, false, false, false, false, false, false, false, false, false, false, false, false] rfl rfl (any_of HT_.out (by kernel_rfl)) (fun _ _ _ h => h) (Or.inl ⟨by rfl, ?_⟩) ?_ ?_
                rotate_left
                · intro w'
                  go_simp
                  with_reducible rfl
                rotate_left
                · simp only [Act.put, List.setIfInBounds_toArray, List.set_cons_zero, List.set_cons_succ, i64_w, i32_w]
                  rfl
                refine pure_ (i := 2) (N := some 45) (v := ?_) (a' := ?_) #[true, true, true, false, false, false, false, false, false, false, false, false, false, false] rfl rfl (any_of HT_.out (by kernel_rfl)) (fun _ _ _ h => h) (Or.inl ⟨by rfl, ?_⟩) ?_ ?_
                rotate_left
                · intro w'
                  go_simp
                  with_reducible rfl
                rotate_left
                · simp only [Act.put, List.setIfInBounds_toArray, List.set_cons_zero, List.set_cons_succ, i64_w, i32_w]
                  rfl
                refine pure_ (i := 3) (N := some 46) (v := ?_) (a' := ?_) #[true, true, true, true, false, false, false, false, false, false, false, false, false, false] rfl rfl (any_of HT_.out (by kernel_rfl)) (fun _ _ _ h => h) (Or.inl ⟨by rfl, ?_⟩) ?_ ?_
                rotate_left
                · intro w'
                  go_simp
                  with_reducible rfl
                rotate_left
                · simp only [Act.put, List.setIfInBounds_toArray, List.set_cons_zero, List.set_cons_succ, i64_w, i32_w]
                  rfl
                refine pure_ (i := 5) (N := some 48) (v := ?_) (a' := ?_) #[true, true, true, true, false, true, false, false, false, false, false, false, false, false] rfl rfl (any_of HT_.out (by kernel_rfl)) (fun _ _ _ h => h) (Or.inl ⟨by rfl, ?_⟩) ?_ ?_
                rotate_left
                · intro w'
                  go_simp
                  with_reducible rfl
                rotate_left
                · simp only [Act.put, List.setIfInBounds_toArray, List.set_cons_zero, List.set_cons_succ, i64_w, i32_w]
                  rfl
                refine pure_ (i := 7) (N := some 50) (v := ?_) (a' := ?_) #[true, true, true, true, false, true, false, true, false, false, false, false, false, false] rfl rfl (any_of HT_.out (by kernel_rfl)) (fun _ _ _ h => h) (Or.inl ⟨by rfl, ?_⟩) ?_ ?_
                rotate_left
                · intro w'
                  go_simp
                  with_reducible rfl
                rotate_left
                · simp only [Act.put, List.setIfInBounds_toArray, List.set_cons_zero, List.set_cons_succ, i64_w, i32_w]
                  rfl
                refine pure_ (i := 8) (N := some 51) (v := ?_) (a' := ?_) #[true, true, true, true, false, true, false, true, true, false, false, false, false, false] rfl rfl (any_of HT_.out (by kernel_rfl)) (fun _ _ _ h => h) (Or.inl ⟨by rfl, ?_⟩) ?_ ?_
                rotate_left
                · intro w'
                  go_simp
                  with_reducible rfl
                rotate_left
                · simp only [Act.put, List.setIfInBounds_toArray, List.set_cons_zero, List.set_cons_succ, i64_w, i32_w]
                  rfl
                refine pure_ (i := 9) (N := some 52) (v := ?_) (a' := ?_) #[true, true, true, true, false, true, false, true, true, true, false, false, false, false] rfl rfl (any_of HT_.out (by kernel_rfl)) (fun _ _ _ h => h) (Or.inl ⟨by rfl, ?_⟩) ?_ ?_
                rotate_left
                · intro w'
                  go_simp
                  with_reducible rfl
                rotate_left
                · simp only [Act.put, List.setIfInBounds_toArray, List.set_cons_zero, List.set_cons_succ, i64_w, i32_w]
                  rfl
                refine take_ (i := 4) (N := some 47) (v := ?_) (a' := ?_) #[true, true, true, true, true, true, false, true, true, true, false, false, false, false] rfl rfl (take_ofW HT_.out HW_.out (by kernel_rfl)) (fun _ _ _ h => h) (Or.inl ⟨by rfl, ?_⟩) hHeld ?_ ?_
                rotate_left
                · intro w' s0
                  go_simp
                  with_reducible rfl
                rotate_left
                · simp only [Act.put, List.setIfInBounds_toArray, List.set_cons_zero, List.set_cons_succ, i64_w, i32_w]
                  rfl
                refine pure_ (i := 6) (N := some 49) (v := ?_) (a' := ?_) #[true, true, true, true, true, true, true, true, true, true, false, false, false, false] rfl rfl (any_of HT_.out (by kernel_rfl)) (fun _ _ _ h => h) (Or.inl ⟨by rfl, ?_⟩) ?_ ?_
                rotate_left
                · intro w'
                  go_simp
                  with_reducible rfl
                rotate_left
                · simp only [Act.put, List.setIfInBounds_toArray, List.set_cons_zero, List.set_cons_succ, i64_w, i32_w]
                  rfl
                refine pure_ (i := 10) (N := some 53) (v := ?_) (a' := ?_) #[true, true, true, true, true, true, true, true, true, true, true, false, false, false] rfl rfl (any_of HT_.out (by kernel_rfl)) (fun _ _ _ h => h) (Or.inl ⟨by rfl, ?_⟩) ?_ ?_
                rotate_left
                · intro w'
                  go_simp
                  with_reducible rfl
                rotate_left
                · simp only [Act.put, List.setIfInBounds_toArray, List.set_cons_zero, List.set_cons_succ, i64_w, i32_w]
                  rfl
                refine one_ (i := 11) (N := some 54) #[true, true, true, true, true, true, true, true, true, true, true, true, false, false] rfl rfl (one_of HT_.out (by kernel_rfl)) (by decide) (fun K hK => ?_)
                refine value_ (w1 := ?_) (v := ?_) (by rfl) rfl ?_ ?_
                rotate_left 2
                · go_simp
                  constructor
                  · rfl
                  rfl
                refine hK.out _ _ ((World.cell?_alloc_lt _ _ _ (World.block_lt_of_cell? _ _ (((HB.out.cell (World.block_lt_of_cell? w _ hw192_0)).trans hw192_0)))).trans (((HB.out.cell (World.block_lt_of_cell? w _ hw192_0)).trans hw192_0))) (fun hHeld => ?_)
                clear hK K
                refine norm_ (a' := ?_) ?_ ?_
                rotate_left
                · show Act.put _ (some 54) _ = _
                  simp only [Act.put, List.setIfInBounds_toArray, List.set_cons_zero, List.set_cons_succ, i64_w, i32_w]
                  rfl
                refine one_ (i := 12) (N := some 55) #[true, true, true, true, true, true, true, true, true, true, true, true, true, false] rfl rfl (one_of HT_.out (by kernel_rfl)) (by decide) (fun K hK => ?_)
                refine Kd.R_append_step (Kd.int .i64) (w0 := w) w.heap.size (by rfl) (.tmp 43) (.tmp 54) 23 3 (.int .i64 0) 8 rfl Try.underlying23 info3 rfl (by decide) (by omega) u10 x10_2 (wrap64 ((wrap64 ((rd l0 x38_2) * (rd t188 x38_2))) * (wrap64 (Int.tdiv t177 (rd l0 x28_1))))) [.int .i64 (wrap64 ((wrap64 ((rd l0 x38_2) * (rd t188 x38_2))) * (wrap64 (Int.tdiv t177 (rd l0 x28_1)))))] (fun k_ => some k_ ≠ (.slice (some ad191) t188.length co28 : Value).ownBlock) (fun _ => False) rfl rfl ?aP (fun _ hk => hk.elim) ?aF ?aO ?aB ?aS ?aL ?_
                (case aP => exact rfl)
                (case aB => exact BU)
                (case aF => exact (fun k_ hk => Kd.fresh' (Kd.R_lt (U HO_36.out)) k_ hk))
                (case aO => exact (U HO_10.out))
                (case aS => exact (below_size BU))
                (case aL => have := LMc34.out; omega)
                intro v194 w36 ho hb hg hat; rw [← Ny193.out] at ho; have n0_ := Aside0.mk (Kd.R_after (ok := (fun _ => True)) (Kd.RM HO_36.out (fun _ hk => ⟨trivial, hk⟩)) hg hat); have n1_ := Aside0.mk (Kd.S_after (ok := (fun k_ => some k_ ≠ (.slice (some ad191) t188.length co28 : Value).ownBlock)) (Kd.SM HO_179000.out (fun _ hk => ⟨hk.2, hk.1⟩)) hg hat); have n2_ := bG BK173 hg (Kd.R_ne HO_10.out BK173.out (by decide)); have n3_ := bG BK174 hg (Kd.R_ne HO_10.out BK174.out (by decide)); have n4_ := bG BK178 hg (Kd.R_ne HO_10.out BK178.out (by decide)); have n5_ := Aside0.mk (hb); have n6_ := Aside0.mk (ho); clear HO_36 HO_179000 BK173 BK174 BK178; (try clear HB); clear HO_10; have HO_36 := n0_; have HO_179000 := n1_; have BK173 := n2_; have BK174 := n3_; have BK178 := n4_; have HB := n5_; have HO195 := n6_; clear n0_ n1_ n2_ n3_ n4_ n5_ n6_ ho hb hg hat
                refine hK.out _ _ (((HB.out.cell (World.block_lt_of_cell? w _ hw192_0)).trans hw192_0)) (fun hHeld => ?_)
                clear hK K
                refine norm_ (a' := ?_) ?_ ?_
                rotate_left
                · show Act.put _ (some 55) _ = _
                  simp only [Act.put, List.setIfInBounds_toArray, List.set_cons_zero, List.set_cons_succ, i64_w, i32_w]
                  rfl
                refine pure_ (i := 13) (N := some 10) (v := ?_) (a' := ?_) #[true, true, true, true, true, true, true, true, true, true, true, true, true, true] rfl rfl (any_of HT_.out (by kernel_rfl)) (fun _ _ _ h => h) (Or.inl ⟨by rfl, ?_⟩) ?_ ?_
                rotate_left
                · intro w'
                  go_simp
                  with_reducible rfl
                rotate_left
                · simp only [Act.put, List.setIfInBounds_toArray, List.set_cons_zero, List.set_cons_succ, i64_w, i32_w]
                  rfl
                refine done_ (done_of HT_.out (by kernel_rfl)) ?_
                try go_wp2
                go_roundg k2
                case measure => have := HK1.out; have := HK2.out; omega
                case rel => exact ⟨(y193), (wrap64 (x38_2 + 1)), sR, H', ⟨by have := HK1.out; have := HK2.out; omega⟩, ⟨U HO195.out⟩, ⟨Kd.RM HO_36.out (fun _ hk => hk.2)⟩, ⟨Kd.SM HO_179000.out (fun _ hk => ⟨hk.2, hk.1⟩)⟩, ⟨U BK173.out⟩, ⟨U BK174.out⟩, ⟨U BK178.out⟩, ⟨BU⟩⟩
              rw [if_neg c29] at H; have c29b0 : decide (x38_2 < (t188.length : Int)) = false := decide_eq_false c29; clear c29; obtain ⟨c37, H⟩ := ifN H; have LMc37 := Aside0.mk c37; clear c37; obtain ⟨y196, hy196⟩ : ∃ y_ : List (List Int), y_ = (x179000_1 ++ [x10_2]) := ⟨_, rfl⟩; replace H : (impl_MoveBack.l0 k2 l0 t177 l0 (l0.length : Int) (wrap64 (x28_1 + 1)) l1_0 a1_1 y196 (wrap64 (a1_1 * t177))) = some (r1, r2, r3) := rH hy196 H; have Ny196 := Aside0.mk hy196; clear hy196; have H' := Aside0.mk H; clear H; have hnb38 := NB178_173.out; have hnc38 := NB173_178.out; have hnb39 := NB178_174.out; have hnc39 := NB174_178.out; obtain ⟨hcz40_0, hcz40_1, hfz40_0, hfz40_1⟩ := bcf BK178; obtain ⟨Ao42, co42, eo42⟩ := Kd.R_slice HO_10.out; subst eo42
              go_wp2_with (first | ((with_reducible refine gate_builtin (b := .append) (xs := #[.tmp 58, .tmp 60]) rfl ?_); at_builtin; refine Kd.S_append (Kd.slice 3 (Kd.int .i64)) (w0 := w) w.heap.size rfl (.tmp 58) (.tmp 60) 25 23 (.slice none 0 0) 24 rfl Try.underlying25 info23 rfl (by decide) (by omega) u179000 x179000_1 x10_2 [.slice Ao42 x10_2.length co42] (fun k_ => some k_ ≠ (.slice Ao28 t188.length co28 : Value).ownBlock) (fun k_ => some k_ = (.slice Ao42 x10_2.length co42 : Value).ownBlock) rfl rfl ?aP (fun k_ hk_ => ((Kd.R_mono (ok' := fun k_ => ((fun k_ => some k_ ≠ (.slice Ao28 t188.length co28 : Value).ownBlock)) k_ ∧ some k_ ≠ (u179000 : Value).ownBlock) (Kd.R_apart' (HO_10.out) (Kd.S_typed HO_179000.out) (by decide)) (fun k_ hk => ⟨hk.1, hk.2⟩))).1 k_ hk_.symm) ?aF ?aO ?aB ?aS ?aL ?_; (case aP => exact Kd.M_row (Kd.R_mono (Kd.R_tight rfl (Kd.R_mono (ok' := fun k_ => ((fun k_ => some k_ ≠ (.slice Ao28 t188.length co28 : Value).ownBlock)) k_ ∧ some k_ ≠ (u179000 : Value).ownBlock) (Kd.R_apart' (HO_10.out) (Kd.S_typed HO_179000.out) (by decide)) (fun k_ hk => ⟨hk.1, hk.2⟩))) (fun _ h_ => h_))); (case aB => exact BU); (case aF => exact (fun k_ hk => Kd.fresh' (Kd.R_lt (U HO_36.out)) k_ hk)); (case aO => exact (Kd.SM HO_179000.out (fun k_ hk => ⟨hk.2, fun e_ => hk.1 e_⟩))); (case aS => exact (below_size BU)); (case aL => have := LMc37.out; omega); intro v197 w41 ho hb hg hat; rw [← Ny196.out] at ho; have n0_ := Aside0.mk (Kd.R_over' (U HO_36.out) (Kd.S_typed (U HO_179000.out)) (by decide) hg); have n1_ := bG BK173 hg (Kd.S_ne HO_179000.out BK173.out (by decide)); have n2_ := bG BK174 hg (Kd.S_ne HO_179000.out BK174.out (by decide)); have n3_ := bG BK178 hg (Kd.S_ne HO_179000.out BK178.out (by decide)); have n4_ := Aside0.mk (hb); have n5_ := Aside0.mk (ho); clear HO_36; clear BK173; clear BK174; clear BK178; try clear HB; clear HO_179000; clear HO_10; have HO_36 := n0_; have BK173 := n1_; have BK174 := n2_; have BK178 := n3_; have HB := n4_; have HO198 := n5_; clear n0_ n1_ n2_ n3_ n4_ n5_; clear ho hb hg hat; obtain ⟨Ao43, co43, eo43⟩ := Kd.S_slice HO198.out; subst eo43; obtain ⟨hcz44_0, hcz44_1, hfz44_0, hfz44_1⟩ := bcf BK178))
              go_roundg k2
              case measure => have := HK1.out; have := HK2.out; omega
              case rel => exact ⟨(wrap64 (x28_1 + 1)), (y196), (.slice Ao43 y196.length co43), sR, H', ⟨by have := HK1.out; have := HK2.out; omega⟩, ⟨Kd.SM (Kd.S_far (p := ⟨gb178, 0, none⟩) (Kd.S_types HO198.out BK178.out (by decide)) (fun _ hk => hk.2) (.slice Ao43 y196.length co43)) (fun _ hk => trivial)⟩, ⟨by (with_reducible repeat (first | refine blk_drewN ?_ _ | refine blk_drew ?_ | refine blk_alloc ?_ _)); refine blk_far ?_ NB173_178.out _; (with_reducible repeat (first | refine blk_drewN ?_ _ | refine blk_drew ?_ | refine blk_alloc ?_ _)); exact BK173.out⟩, ⟨by (with_reducible repeat (first | refine blk_drewN ?_ _ | refine blk_drew ?_ | refine blk_alloc ?_ _)); refine blk_far ?_ NB174_178.out _; (with_reducible repeat (first | refine blk_drewN ?_ _ | refine blk_drew ?_ | refine blk_alloc ?_ _)); exact BK174.out⟩, ⟨by (with_reducible repeat (first | refine blk_drewN ?_ _ | refine blk_drew ?_ | refine blk_alloc ?_ _)); refine blk_put (cs := #[u179000, .int .i64 (wrap64 (a1_1 * t177))]) ?_ 0 _ rfl; (with_reducible repeat (first | refine blk_drewN ?_ _ | refine blk_drew ?_ | refine blk_alloc ?_ _)); exact BK178.out⟩, ⟨BU⟩⟩
        rw [if_neg c18] at H; have c18b0 : decide (x28_1 < (l0.length : Int)) = false := decide_eq_false c18; clear c18; obtain ⟨⟨t179, t182, t183⟩, A45, H⟩ := bnd H; replace H : (some (t179, t182, t183)) = some (r1, r2, r3) := H; simp only [Option.some.injEq, Prod.mk.injEq] at H; obtain ⟨rfl, rfl, rfl⟩ := H; have hnb46 := NB178_173.out; have hnc46 := NB173_178.out; have hnb47 := NB178_174.out; have hnc47 := NB174_178.out; obtain ⟨hcz48_0, hcz48_1, hfz48_0, hfz48_1⟩ := bcf BK178; obtain ⟨Ao49, co49, eo49⟩ := Kd.S_slice HO_179000.out; subst eo49
        go_wp2_with (first | ((with_reducible refine gate_callee (f := 58) rfl ?_); refine goesK (some 66) Try.func58 #[.slice A0 l0.length c0, .agg #[.slice Ao49 x179000_1.length co49, .int .i64 (wrap64 (a1_1 * t177))]] ?_; (with_reducible refine (impl_lowest.calls k1 _ _ l0 _ _ x179000_1 (wrap64 (a1_1 * t177)) t179 t182 t183 _ ?side1 ?side2 ?side3 ?side4 A45.out).mono ?_); (case side1 => exact U (Kd.C_below HR0.out HB.out)); (case side2 => exact HC0.out); (case side3 => exact U ((Kd.S_reads' HO_179000.out).2.2)); (case side4 => exact (Kd.S_reads' HO_179000.out).2.1); rintro e w50 ⟨v180, rfl, ho0, hb⟩; refine ⟨_, rfl, ?_⟩; have HO181 := Aside0.mk (Kd.S_lower (Kd.S_new' ho0 (Kd.S_lt (U HO_179000.out))) (below_size BU)); replace HO_179000 := Aside0.mk (Kd.S_elder' (U HO_179000.out) (Kd.S_base ho0) hb); replace BK173 := bB BK173 hb; replace BK174 := bB BK174 hb; replace BK178 := bB BK178 hb; replace HB := BS hb; (try clear hb); (try clear ho0); obtain ⟨Ao51, co51, eo51⟩ := Kd.S_slice HO181.out; subst eo51; have hnb52 := NB174_173.out; have hnc52 := NB173_174.out; obtain ⟨hcz53_0, hcz53_1, hfz53_0, hfz53_1⟩ := bcf BK174))
        refine bodyPost_ret (results_ct rfl _ _ gb174 27 #[.slice Ao51 t179.length co51, .int .i64 t182] (0, 0) _ rfl (by (with_reducible repeat (first | refine blk_drewN ?_ _ | refine blk_drew ?_ | refine blk_alloc ?_ _)); refine blk_put (cs := #[.slice Ao51 t179.length co51, .int .i64 0]) ?_ 1 _ rfl; (with_reducible repeat (first | refine blk_drewN ?_ _ | refine blk_drew ?_ | refine blk_alloc ?_ _)); refine blk_put (cs := #[.slice none 0 0, .int .i64 0]) ?_ 0 _ rfl; (with_reducible repeat (first | refine blk_drewN ?_ _ | refine blk_drew ?_ | refine blk_alloc ?_ _)); exact BK174.out) Try.underlying27 rfl (by kernel_rfl)) rfl ?_
        exact ⟨_, eR, Kd.SM (Kd.S_far (p := ⟨gb174, 1, none⟩) (Kd.S_far (p := ⟨gb174, 0, none⟩) (Kd.S_types HO181.out BK174.out (by decide)) (fun _ hk => hk.2) (.slice Ao51 t179.length co51)) (fun _ hk => hk.2) (.int .i64 t182)) (fun _ hk => trivial), BU⟩
  replace c4 := Bool.eq_false_iff.mpr c4; subst c4; replace H := ifF H; simp only [Option.some.injEq, Prod.mk.injEq] at H; obtain ⟨rfl, rfl, rfl⟩ := H; go_enter Try.func19, Try.ntmps19
  go_wp2_with (first | ((with_reducible refine gate_dst (N := 3) rfl ?_); refine boxE (N := 3) (cs := #[.slice A1_0 l1_0.length c1_0, .int .i64 a1_1]) (t := 27) ?_; intro gb173 hg w54 hbox hb; have BK173 := Aside0.mk (hbox); have GW173 := GS w hg; have GE173 := GS w hg; replace HB := BS hb; clear hb hbox hg) | ((with_reducible refine gate_dst (N := 4) rfl ?_); refine boxE (N := 4) (cs := #[.slice none 0 0, .int .i64 0]) (t := 27) ?_; intro gb174 hg w55 hbox hb; have BK174 := Aside0.mk (hbox); have GW174 := GS w hg; have GE174 := GS w hg; replace HB := BS hb; have NB173_174 := NL BK173 hg; have NB174_173 := NG BK173 hg; replace BK173 := bB BK173 hb; clear hb hbox hg; have hnb56 := NB173_174.out; have hnc56 := NB174_173.out; obtain ⟨hcz57_0, hcz57_1, hfz57_0, hfz57_1⟩ := bcf BK173) | ((with_reducible refine gate_callee (f := 21) rfl ?_); refine goesK (some 15) Try.func21 #[.slice A0 l0.length c0, .agg #[.slice A1_0 l1_0.length c1_0, .int .i64 a1_1]] ?_; (with_reducible refine (impl_MoveValid.calls k _ _ l0 _ _ l1_0 a1_1 false _ ?side1 ?side2 ?side3 ?side4 A3.out).mono ?_); (case side1 => exact U (Kd.C_below HR0.out HB.out)); (case side2 => exact HC0.out); (case side3 => exact U (Kd.C_below HR1_0.out HB.out)); (case side4 => exact HC1_0.out); rintro e w58 ⟨rfl, hb⟩; refine ⟨_, rfl, ?_⟩; replace BK173 := bB BK173 hb; replace BK174 := bB BK174 hb; replace HB := BS hb; (try clear hb); obtain ⟨hcz59_0, hcz59_1, hfz59_0, hfz59_1⟩ := bcf BK174))
  refine bodyPost_ret (results_ct rfl _ _ gb174 27 #[.slice none 0 0, .int .i64 0] (0, 0) _ rfl (by (with_reducible repeat (first | refine blk_drewN ?_ _ | refine blk_drew ?_ | refine blk_alloc ?_ _)); refine blk_put (cs := #[.slice none 0 0, .int .i64 0]) ?_ 1 _ rfl; (with_reducible repeat (first | refine blk_drewN ?_ _ | refine blk_drew ?_ | refine blk_alloc ?_ _)); refine blk_put (cs := #[.slice none 0 0, .int .i64 0]) ?_ 0 _ rfl; (with_reducible repeat (first | refine blk_drewN ?_ _ | refine blk_drew ?_ | refine blk_alloc ?_ _)); exact BK174.out) Try.underlying27 rfl (by kernel_rfl)) rfl ?_
  exact ⟨_, eR, by first | exact Kd.S_nil _ _ _ _ _ | exact Kd.N_nil _ _ _ _ _ | exact Kd.V_nil _ _ _ _ _ | exact Kd.Q_nil _ _ _ _ _ | exact Kd.R_nil _ _ _ _ _, BU⟩

end Go.Proofs.Ytnbeeogmaamgdaa.PFnOf
