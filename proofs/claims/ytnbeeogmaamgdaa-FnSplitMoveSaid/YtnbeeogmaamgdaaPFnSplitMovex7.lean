import Derived.Test.YtnbeeogmaamgdaaPFnSplitMovex0
import Derived.Test.YtnbeeogmaamgdaaPFnSplitMovex2
import Derived.Test.YtnbeeogmaamgdaaPFnSplitMovex5
import Derived.Test.YtnbeeogmaamgdaaPFnSplitMovex6
namespace Go.Proofs.Ytnbeeogmaamgdaa.PFnSplitMove
open Go.RowKit Go.Proofs.YtnbeeogmaamgdaaW.PrintWords Go.Proofs.YtnbeeogmaamgdaaW.PrintLast Go.Proofs.YtnbeeogmaamgdaaW.PrintMore
attribute [local go_sem] max2_int min2_int max_two min_two max_three min_three max_four min_four   -- for this text's walks alone
set_option linter.unusedVariables false
set_option linter.unusedSimpArgs false

/-! ### impl_MoveOf: function 43 -/
def impl_MoveOf.l0 : Nat → List Int → Bool → List (List Int) → Int → Int → List (List Int) → Int → Option ((List (List Int)) × Int × Bool)
  | 0, _, _, _, _, _, _, _ => none
  | k + 1, x0, x7, x21, x22, x23, x248000, x248001 => if x23 < x22 then (if 0 ≤ x23 then (if x23 < (x21.length : Int) then ((impl_MoveMirror.f k x0 (rd_L1 x21 x23)).bind fun bt249 => (if x7 = true then (if bt249.2.2 = true then ((impl_MoveMul.f k x0 x248000 x248001 bt249.1 bt249.2.1).bind fun bt255 => (impl_MoveOf.l0 k x0 bt255.2.2 x21 x22 (wrap64 (x23 + 1)) bt255.1 bt255.2.1)) else (some (([] : List (List Int)), 0, false))) else (some (([] : List (List Int)), 0, false)))) else (none)) else (none)) else (if x7 = true then (some (x248000, x248001, true)) else (some (([] : List (List Int)), 0, false)))
def impl_MoveOf.f (k : Nat) (l0 : List Int) (l1 : List (List Int)) : Option ((List (List Int)) × Int × Bool) := if (l1.length : Int) > 6 then (some (([] : List (List Int)), 0, false)) else ((impl_MoveStay.f k l0).bind fun bt242 => (impl_MoveOf.l0 k l0 bt242.2.2 l1 (l1.length : Int) 0 bt242.1 bt242.2.1))
theorem impl_MoveOf.mono_l : ∀ k, (∀ y0 y1 y2 y3 y4 y5 y6, LeO (impl_MoveOf.l0 k y0 y1 y2 y3 y4 y5 y6) (impl_MoveOf.l0 (k + 1) y0 y1 y2 y3 y4 y5 y6))
  | 0 => fun _ _ _ _ _ _ _ r h => by simp [impl_MoveOf.l0] at h
  | k + 1 => by
    have ih0 := impl_MoveOf.mono_l k
    · intro y0 y1 y2 y3 y4 y5 y6
      unfold impl_MoveOf.l0
      with_reducible repeat' first | exact ih0 _ _ _ _ _ _ _ | exact impl_MoveMirror.mono _ _ _ | exact impl_MoveMul.mono _ _ _ _ _ _ | exact impl_MoveStay.mono _ _ | exact LeO.refl _ | exact LeO.none _ | refine LeO.ite ?_ ?_ | refine LeO.bind ?_ (fun _ => ?_)
theorem impl_MoveOf.mono : ∀ a0 a1 k, LeO (impl_MoveOf.f k a0 a1) (impl_MoveOf.f (k + 1) a0 a1) := by
  intro a0 a1 k
  have ih0 := impl_MoveOf.mono_l k
  unfold impl_MoveOf.f
  with_reducible repeat' first | exact ih0 _ _ _ _ _ _ _ | exact impl_MoveMirror.mono _ _ _ | exact impl_MoveMul.mono _ _ _ _ _ _ | exact impl_MoveStay.mono _ _ | exact LeO.refl _ | exact LeO.none _ | refine LeO.ite ?_ ?_ | refine LeO.bind ?_ (fun _ => ?_)
set_option maxHeartbeats 8000000 in
set_option maxRecDepth 100000 in
theorem impl_MoveOf.calls (k : Nat) (A0 : Option Addr) (c0 : Nat) (l0 : List Int) (A1 : Option Addr) (c1 : Nat) (l1 : List (List Int)) (r1 : List (List Int)) (r2 : Int) (r3 : Bool) (w : World) (hr0 : Kd.C (Kd.int .i64) w A0 l0.length l0) (hc0 : l0.length ≤ c0) (hr1 : Kd.C (Kd.slice 3 (Kd.int .i64)) w A1 l1.length l1) (hc1 : l1.length ≤ c1) (h : impl_MoveOf.f k l0 l1 = some (r1, r2, r3)) :
    Calls Try.prog 43 #[.slice A0 l0.length c0, .slice A1 l1.length c1] w fun e w' => ∃ v0_ : Value, e = .returned (.tuple #[.agg #[v0_, .int .i64 r2], .bool r3]) ∧ Kd.S (Kd.slice 3 (Kd.int .i64)) 23 w' w.heap.size (fun _ => True) v0_ r1 ∧ Below w.heap.size w w' := by
  have hu27 := Try.underlying27; have HR0 := Aside0.mk hr0; have HC0 := Aside0.mk hc0; clear hr0 hc0; have HR1 := Aside0.mk hr1; have HC1 := Aside0.mk hc1; clear hr1 hc1; have HB := Aside0.mk (Below.refl w.heap.size w); unfold impl_MoveOf.f at h; have H := h; clear h
  by_cases c3 : (l1.length : Int) > 6
  · rw [if_pos c3] at H
    have c3b0 : decide (6 < (l1.length : Int)) = true := decide_eq_true c3; have c3b1 : decide (6 < l1.length) = true := decide_eq_true (by omega); clear c3; simp only [Option.some.injEq, Prod.mk.injEq] at H; obtain ⟨rfl, rfl, rfl⟩ := H; go_enter Try.func43, Try.ntmps43
    go_wp2_with (first | ((with_reducible refine gate_dst (N := 4) rfl ?_); refine boxE (N := 4) (cs := #[.slice none 0 0, .int .i64 0]) (t := 27) ?_; intro gb241 hg w4 hbox hb; have BK241 := Aside0.mk (hbox); have GW241 := GS w hg; have GE241 := GS w hg; replace HB := BS hb; clear hb hbox hg; obtain ⟨hcz5_0, hcz5_1, hfz5_0, hfz5_1⟩ := bcf BK241))
    refine bodyPost_ret (results_ct rfl _ _ gb241 27 #[.slice none 0 0, .int .i64 0] (0, 0) _ rfl (by (with_reducible repeat (first | refine blk_drewN ?_ _ | refine blk_drew ?_ | refine blk_alloc ?_ _)); refine blk_put (cs := #[.slice none 0 0, .int .i64 0]) ?_ 1 _ rfl; (with_reducible repeat (first | refine blk_drewN ?_ _ | refine blk_drew ?_ | refine blk_alloc ?_ _)); refine blk_put (cs := #[.slice none 0 0, .int .i64 0]) ?_ 0 _ rfl; (with_reducible repeat (first | refine blk_drewN ?_ _ | refine blk_drew ?_ | refine blk_alloc ?_ _)); exact BK241.out) Try.underlying27 rfl (by kernel_rfl)) rfl ?_
    exact ⟨_, eR, by first | exact Kd.S_nil _ _ _ _ _ | exact Kd.N_nil _ _ _ _ _ | exact Kd.V_nil _ _ _ _ _ | exact Kd.Q_nil _ _ _ _ _ | exact Kd.R_nil _ _ _ _ _, BU⟩
  rw [if_neg c3] at H; have c3b0 : decide (6 < (l1.length : Int)) = false := decide_eq_false c3; have c3b1 : decide (6 < l1.length) = false := decide_eq_false (by omega); clear c3; obtain ⟨⟨t242, t245, t246⟩, A6, H⟩ := bnd H; replace H : (impl_MoveOf.l0 k l0 t246 l1 (l1.length : Int) 0 t242 t245) = some (r1, r2, r3) := H; have H' := Aside0.mk H; clear H; go_enter Try.func43, Try.ntmps43
  go_wp2_with (first | ((with_reducible refine gate_dst (N := 4) rfl ?_); refine boxE (N := 4) (cs := #[.slice none 0 0, .int .i64 0]) (t := 27) ?_; intro gb241 hg w7 hbox hb; have BK241 := Aside0.mk (hbox); have GW241 := GS w hg; have GE241 := GS w hg; replace HB := BS hb; clear hb hbox hg) | ((with_reducible refine gate_callee (f := 14) rfl ?_); refine goesK (some 18) Try.func14 #[.slice A0 l0.length c0] ?_; (with_reducible refine (impl_MoveStay.calls k _ _ l0 t242 t245 t246 _ ?side1 ?side2 A6.out).mono ?_); (case side1 => exact U (Kd.C_below HR0.out HB.out)); (case side2 => exact HC0.out); rintro e w8 ⟨v243, rfl, ho0, hb⟩; refine ⟨_, rfl, ?_⟩; have HO244 := Aside0.mk (Kd.S_lower ho0 (below_size BU)); replace BK241 := bB BK241 hb; replace HB := BS hb; (try clear hb); (try clear ho0)) | ((with_reducible refine gate_dst (N := 6) rfl ?_); refine boxE (N := 6) (cs := #[.slice none 0 0, .int .i64 0]) (t := 27) ?_; intro gb247 hg w9 hbox hb; replace HO244 := Aside0.mk (Kd.S_below (U HO244.out) hb); have BK247 := Aside0.mk (hbox); have GW247 := GS w hg; have GE247 := GS w hg; replace HB := BS hb; have NB241_247 := NL BK241 hg; have NB247_241 := NG BK241 hg; replace BK241 := bB BK241 hb; clear hb hbox hg; obtain ⟨Ao10, co10, eo10⟩ := Kd.S_slice HO244.out; subst eo10; have hnb11 := NB247_241.out; have hnc11 := NB241_247.out; obtain ⟨hcz12_0, hcz12_1, hfz12_0, hfz12_1⟩ := bcf BK247))
  go_loopg [7, 23] k (fun kq v7 v23 w' => ∃ (x7_1 : Bool) (x23_1 : Int) (x242001_1 : Int) (x248000_1 : List (List Int)) (x248001_1 : Int) (u248000 : Value), v7 = .bool x7_1 ∧ v23 = .int .i64 x23_1 ∧ Aside0 (impl_MoveOf.l0 kq l0 x7_1 l1 (l1.length : Int) x23_1 x248000_1 x248001_1 = some (r1, r2, r3)) ∧ Aside0 (kq ≤ k) ∧ Aside0 (Kd.S (Kd.slice 3 (Kd.int .i64)) 23 w' w.heap.size (fun _ => True) u248000 x248000_1) ∧ Aside0 (w'.heap[gb241]? = some (.cells #[(.slice none 0 0), .int .i64 x242001_1] 27 (0, 0))) ∧ Aside0 (w'.heap[gb247]? = some (.cells #[u248000, .int .i64 x248001_1] 27 (0, 0))) ∧ Aside0 (Below w.heap.size w w'))
  case atStart => exact ⟨(t246), (0), (0), (t242), (t245), (.slice Ao10 t242.length co10), sR, sR, H', ⟨Nat.le_refl _⟩, ⟨Kd.SM (Kd.S_far (p := ⟨gb247, 1, none⟩) (Kd.S_far (p := ⟨gb247, 0, none⟩) (Kd.S_types HO244.out BK247.out (by decide)) (fun _ hk => hk.2) (.slice Ao10 t242.length co10)) (fun _ hk => hk.2) (.int .i64 t245)) (fun _ hk => trivial)⟩, ⟨by (with_reducible repeat (first | refine blk_drewN ?_ _ | refine blk_drew ?_ | refine blk_alloc ?_ _)); refine blk_far ?_ NB241_247.out _; (with_reducible repeat (first | refine blk_drewN ?_ _ | refine blk_drew ?_ | refine blk_alloc ?_ _)); refine blk_far ?_ NB241_247.out _; (with_reducible repeat (first | refine blk_drewN ?_ _ | refine blk_drew ?_ | refine blk_alloc ?_ _)); exact BK241.out⟩, ⟨by (with_reducible repeat (first | refine blk_drewN ?_ _ | refine blk_drew ?_ | refine blk_alloc ?_ _)); refine blk_put (cs := #[.slice Ao10 t242.length co10, .int .i64 0]) ?_ 1 _ rfl; (with_reducible repeat (first | refine blk_drewN ?_ _ | refine blk_drew ?_ | refine blk_alloc ?_ _)); refine blk_put (cs := #[.slice none 0 0, .int .i64 0]) ?_ 0 _ rfl; (with_reducible repeat (first | refine blk_drewN ?_ _ | refine blk_drew ?_ | refine blk_alloc ?_ _)); exact BK247.out⟩, ⟨BU⟩⟩
  case round =>
    clear H'; (try clear c3); (try clear c3b0); (try clear c3b1); (try clear hcz12_0); (try clear hcz12_1); (try clear hfz12_0); (try clear hfz12_1); obtain ⟨x7_1, x23_1, x242001_1, x248000_1, x248001_1, u248000, rfl, rfl, HA, HK1, HO_248000, BK241, BK247, HB⟩ := hrel; cases gk with
    | zero => exact absurd HA.out (by simp [impl_MoveOf.l0])
    | succ k1 =>
      have H := HA.out; clear HA; simp only [impl_MoveOf.l0] at H
      by_cases c13 : x23_1 < (l1.length : Int)
      · rw [if_pos c13] at H
        have c13b0 : decide (x23_1 < (l1.length : Int)) = true := decide_eq_true c13; clear c13; obtain ⟨c14, H⟩ := ifN H; have c14b0 : decide (0 ≤ x23_1) = true := decide_eq_true c14; clear c14; obtain ⟨c15, H⟩ := ifN H; have c15b0 : decide (x23_1 < (l1.length : Int)) = true := decide_eq_true c15; clear c15; obtain ⟨⟨t249, t252, t253⟩, A16, H⟩ := bnd H; replace H : (if x7_1 = true then (if t253 = true then ((impl_MoveMul.f k1 l0 x248000_1 x248001_1 t249 t252).bind fun bt255 => (impl_MoveOf.l0 k1 l0 bt255.2.2 l1 (l1.length : Int) (wrap64 (x23_1 + 1)) bt255.1 bt255.2.1)) else (some (([] : List (List Int)), 0, false))) else (some (([] : List (List Int)), 0, false))) = some (r1, r2, r3) := H
        by_cases c17 : x7_1 = true
        · subst c17
          replace H := ifT H
          by_cases c18 : t253 = true
          · subst c18
            replace H := ifT H; obtain ⟨⟨t255, t258, t259⟩, A19, H⟩ := bnd H; replace H : (impl_MoveOf.l0 k1 l0 t259 l1 (l1.length : Int) (wrap64 (x23_1 + 1)) t255 t258) = some (r1, r2, r3) := H; have H' := Aside0.mk H; clear H; have p248 : 0 ≤ (x23_1 : Int) := oD; have q248 : x23_1 < (l1.length : Int) := oD; obtain ⟨ad248, A248_0, c248_0, e248, hx248_0, hl248_0, hi248_0⟩ := at_L1 HR1.out x23_1 p248 q248; cases e248; replace hx248_0 := (HB.out.cell (World.block_lt_of_cell? w _ hx248_0)).trans hx248_0; have HR248_0 := Aside0.mk hi248_0; have HC248_0 := Aside0.mk hl248_0; clear hi248_0 hl248_0; replace p248 := eq_true p248; replace q248 := eq_true q248
            go_wp2_with (first | ((with_reducible refine gate_callee (f := 17) rfl ?_); refine goesK (some 30) Try.func17 #[.slice A0 l0.length c0, .slice A248_0 (rd_L1 l1 x23_1).length c248_0] ?_; (with_reducible refine (impl_MoveMirror.calls k1 _ _ l0 _ _ (rd_L1 l1 x23_1) t249 t252 true _ ?side1 ?side2 ?side3 ?side4 A16.out).mono ?_); (case side1 => exact U (Kd.C_below HR0.out HB.out)); (case side2 => exact HC0.out); (case side3 => exact U (Kd.C_below HR248_0.out HB.out)); (case side4 => exact HC248_0.out); rintro e w20 ⟨v250, rfl, ho0, hb⟩; refine ⟨_, rfl, ?_⟩; have HO251 := Aside0.mk (Kd.S_lower (Kd.S_new' ho0 (Kd.S_lt (U HO_248000.out))) (below_size BU)); replace HO_248000 := Aside0.mk (Kd.S_elder' (U HO_248000.out) (Kd.S_base ho0) hb); replace BK241 := bB BK241 hb; replace BK247 := bB BK247 hb; replace HB := BS hb; (try clear hb); (try clear ho0)) | ((with_reducible refine gate_dst (N := 10) rfl ?_); refine boxE (N := 10) (cs := #[.slice none 0 0, .int .i64 0]) (t := 27) ?_; intro gb254 hg w21 hbox hb; replace HO_248000 := Aside0.mk (Kd.S_below (U HO_248000.out) hb); replace HO251 := Aside0.mk (Kd.S_below (U HO251.out) hb); have BK254 := Aside0.mk (hbox); have GW254 := GS w hg; have GE254 := GS w hg; replace HB := BS hb; have NB241_254 := NL BK241 hg; have NB254_241 := NG BK241 hg; replace BK241 := bB BK241 hb; have NB247_254 := NL BK247 hg; have NB254_247 := NG BK247 hg; replace BK247 := bB BK247 hb; clear hb hbox hg; obtain ⟨Ao22, co22, eo22⟩ := Kd.S_slice HO251.out; subst eo22; have hnb23 := NB254_241.out; have hnc23 := NB241_254.out; have hnb24 := NB254_247.out; have hnc24 := NB247_254.out; obtain ⟨hcz25_0, hcz25_1, hfz25_0, hfz25_1⟩ := bcf BK254; have hnb26 := NB247_241.out; have hnc26 := NB241_247.out; obtain ⟨hcz27_0, hcz27_1, hfz27_0, hfz27_1⟩ := bcf BK247; obtain ⟨Ao28, co28, eo28⟩ := Kd.S_slice HO_248000.out; subst eo28) | ((with_reducible refine gate_callee (f := 18) rfl ?_); refine goesK (some 44) Try.func18 #[.slice A0 l0.length c0, .agg #[.slice Ao28 x248000_1.length co28, .int .i64 x248001_1], .agg #[.slice Ao22 t249.length co22, .int .i64 t252]] ?_; (with_reducible refine (impl_MoveMul.calls k1 _ _ l0 _ _ x248000_1 x248001_1 _ _ t249 t252 t255 t258 t259 _ ?side1 ?side2 ?side3 ?side4 ?side5 ?side6 A19.out).mono ?_); (case side1 => exact Kd.C_below HR0.out BU); (case side2 => exact HC0.out); (case side3 => refine (Kd.S_reads' (e := 23) (base := w.heap.size) (ok := fun k_ => (True ∧ some k_ ≠ (.slice Ao22 t249.length co22 : Value).ownBlock)) (n := x248000_1.length) (c := co28) ?_).2.2; exact (Kd.SM (Kd.S_far (p := ⟨gb254, 1, none⟩) (Kd.S_far (p := ⟨gb254, 0, none⟩) (Kd.S_types HO_248000.out BK254.out (by decide)) (fun _ hk => hk.2) (.slice Ao22 t249.length co22)) (fun _ hk => hk.2) (.int .i64 t252)) (fun _ h_ => h_.1))); (case side4 => exact (Kd.S_reads' HO_248000.out).2.1); (case side5 => refine (Kd.S_reads' (e := 23) (base := w.heap.size) (ok := fun k_ => (True ∧ some k_ ≠ (.slice Ao28 x248000_1.length co28 : Value).ownBlock)) (n := t249.length) (c := co22) ?_).2.2; exact (Kd.SM (Kd.S_far (p := ⟨gb254, 1, none⟩) (Kd.S_far (p := ⟨gb254, 0, none⟩) (Kd.S_types HO251.out BK254.out (by decide)) (fun _ hk => hk.2) (.slice Ao22 t249.length co22)) (fun _ hk => hk.2) (.int .i64 t252)) (fun _ h_ => h_.1))); (case side6 => exact (Kd.S_reads' HO251.out).2.1); rintro e w29 ⟨v256, rfl, ho0, hb⟩; refine ⟨_, rfl, ?_⟩; have HO257 := Aside0.mk (Kd.S_lower (Kd.S_new' (Kd.S_new' ho0 (Kd.S_lt (Kd.SM (Kd.S_far (p := ⟨gb254, 1, none⟩) (Kd.S_far (p := ⟨gb254, 0, none⟩) (Kd.S_types HO_248000.out BK254.out (by decide)) (fun _ hk => hk.2) (.slice Ao22 t249.length co22)) (fun _ hk => hk.2) (.int .i64 t252)) (fun _ h_ => h_.1)))) (Kd.S_lt (Kd.SM (Kd.S_far (p := ⟨gb254, 1, none⟩) (Kd.S_far (p := ⟨gb254, 0, none⟩) (Kd.S_types HO251.out BK254.out (by decide)) (fun _ hk => hk.2) (.slice Ao22 t249.length co22)) (fun _ hk => hk.2) (.int .i64 t252)) (fun _ h_ => h_.1)))) (below_size BU)); replace HO_248000 := Aside0.mk (Kd.S_elder' (Kd.SM (Kd.S_far (p := ⟨gb254, 1, none⟩) (Kd.S_far (p := ⟨gb254, 0, none⟩) (Kd.S_types HO_248000.out BK254.out (by decide)) (fun _ hk => hk.2) (.slice Ao22 t249.length co22)) (fun _ hk => hk.2) (.int .i64 t252)) (fun _ h_ => h_.1)) (Kd.S_base ho0) hb); replace HO251 := Aside0.mk (Kd.S_elder' (Kd.SM (Kd.S_far (p := ⟨gb254, 1, none⟩) (Kd.S_far (p := ⟨gb254, 0, none⟩) (Kd.S_types HO251.out BK254.out (by decide)) (fun _ hk => hk.2) (.slice Ao22 t249.length co22)) (fun _ hk => hk.2) (.int .i64 t252)) (fun _ h_ => h_.1)) (Kd.S_base ho0) hb); replace BK241 := Aside0.mk (blk_below (g := gb241) (o := .cells #[.slice none 0 0, .int .i64 x242001_1] 27 (0, 0)) (by (with_reducible repeat (first | refine blk_drewN ?_ _ | refine blk_drew ?_ | refine blk_alloc ?_ _)); refine blk_far ?_ NB241_254.out _; (with_reducible repeat (first | refine blk_drewN ?_ _ | refine blk_drew ?_ | refine blk_alloc ?_ _)); refine blk_far ?_ NB241_254.out _; (with_reducible repeat (first | refine blk_drewN ?_ _ | refine blk_drew ?_ | refine blk_alloc ?_ _)); exact BK241.out) hb); replace BK247 := Aside0.mk (blk_below (g := gb247) (o := .cells #[.slice Ao28 x248000_1.length co28, .int .i64 x248001_1] 27 (0, 0)) (by (with_reducible repeat (first | refine blk_drewN ?_ _ | refine blk_drew ?_ | refine blk_alloc ?_ _)); refine blk_far ?_ NB247_254.out _; (with_reducible repeat (first | refine blk_drewN ?_ _ | refine blk_drew ?_ | refine blk_alloc ?_ _)); refine blk_far ?_ NB247_254.out _; (with_reducible repeat (first | refine blk_drewN ?_ _ | refine blk_drew ?_ | refine blk_alloc ?_ _)); exact BK247.out) hb); replace BK254 := Aside0.mk (blk_below (g := gb254) (o := .cells #[.slice Ao22 t249.length co22, .int .i64 t252] 27 (0, 0)) (by (with_reducible repeat (first | refine blk_drewN ?_ _ | refine blk_drew ?_ | refine blk_alloc ?_ _)); refine blk_put (cs := #[.slice Ao22 t249.length co22, .int .i64 0]) ?_ 1 _ rfl; (with_reducible repeat (first | refine blk_drewN ?_ _ | refine blk_drew ?_ | refine blk_alloc ?_ _)); refine blk_put (cs := #[.slice none 0 0, .int .i64 0]) ?_ 0 _ rfl; (with_reducible repeat (first | refine blk_drewN ?_ _ | refine blk_drew ?_ | refine blk_alloc ?_ _)); exact BK254.out) hb); replace HB := BS hb; (try clear hb); (try clear ho0); obtain ⟨Ao30, co30, eo30⟩ := Kd.S_slice HO257.out; subst eo30; obtain ⟨hcz31_0, hcz31_1, hfz31_0, hfz31_1⟩ := bcf BK247))
            go_roundg k1
            case measure => have := HK1.out; omega
            case rel => exact ⟨(t259), (wrap64 (x23_1 + 1)), (x242001_1), (t255), (t258), (.slice Ao30 t255.length co30), sR, sR, H', ⟨by have := HK1.out; omega⟩, ⟨Kd.SM (Kd.S_far (p := ⟨gb247, 1, none⟩) (Kd.S_far (p := ⟨gb247, 0, none⟩) (Kd.S_types HO257.out BK247.out (by decide)) (fun _ hk => hk.2) (.slice Ao30 t255.length co30)) (fun _ hk => hk.2) (.int .i64 t258)) (fun _ hk => trivial)⟩, ⟨by (with_reducible repeat (first | refine blk_drewN ?_ _ | refine blk_drew ?_ | refine blk_alloc ?_ _)); refine blk_far ?_ NB241_247.out _; (with_reducible repeat (first | refine blk_drewN ?_ _ | refine blk_drew ?_ | refine blk_alloc ?_ _)); refine blk_far ?_ NB241_247.out _; (with_reducible repeat (first | refine blk_drewN ?_ _ | refine blk_drew ?_ | refine blk_alloc ?_ _)); exact BK241.out⟩, ⟨by (with_reducible repeat (first | refine blk_drewN ?_ _ | refine blk_drew ?_ | refine blk_alloc ?_ _)); refine blk_put (cs := #[.slice Ao30 t255.length co30, .int .i64 x248001_1]) ?_ 1 _ rfl; (with_reducible repeat (first | refine blk_drewN ?_ _ | refine blk_drew ?_ | refine blk_alloc ?_ _)); refine blk_put (cs := #[.slice Ao28 x248000_1.length co28, .int .i64 x248001_1]) ?_ 0 _ rfl; (with_reducible repeat (first | refine blk_drewN ?_ _ | refine blk_drew ?_ | refine blk_alloc ?_ _)); exact BK247.out⟩, ⟨BU⟩⟩
          replace c18 := Bool.eq_false_iff.mpr c18; subst c18; replace H := ifF H; simp only [Option.some.injEq, Prod.mk.injEq] at H; obtain ⟨rfl, rfl, rfl⟩ := H; have p248 : 0 ≤ (x23_1 : Int) := oD; have q248 : x23_1 < (l1.length : Int) := oD; obtain ⟨ad248, A248_0, c248_0, e248, hx248_0, hl248_0, hi248_0⟩ := at_L1 HR1.out x23_1 p248 q248; cases e248; replace hx248_0 := (HB.out.cell (World.block_lt_of_cell? w _ hx248_0)).trans hx248_0; have HR248_0 := Aside0.mk hi248_0; have HC248_0 := Aside0.mk hl248_0; clear hi248_0 hl248_0; replace p248 := eq_true p248; replace q248 := eq_true q248
          go_wp2_with (first | ((with_reducible refine gate_callee (f := 17) rfl ?_); refine goesK (some 30) Try.func17 #[.slice A0 l0.length c0, .slice A248_0 (rd_L1 l1 x23_1).length c248_0] ?_; (with_reducible refine (impl_MoveMirror.calls k1 _ _ l0 _ _ (rd_L1 l1 x23_1) t249 t252 false _ ?side1 ?side2 ?side3 ?side4 A16.out).mono ?_); (case side1 => exact U (Kd.C_below HR0.out HB.out)); (case side2 => exact HC0.out); (case side3 => exact U (Kd.C_below HR248_0.out HB.out)); (case side4 => exact HC248_0.out); rintro e w32 ⟨v250, rfl, ho0, hb⟩; refine ⟨_, rfl, ?_⟩; have HO251 := Aside0.mk (Kd.S_lower (Kd.S_new' ho0 (Kd.S_lt (U HO_248000.out))) (below_size BU)); replace HO_248000 := Aside0.mk (Kd.S_elder' (U HO_248000.out) (Kd.S_base ho0) hb); replace BK241 := bB BK241 hb; replace BK247 := bB BK247 hb; replace HB := BS hb; (try clear hb); (try clear ho0)) | ((with_reducible refine gate_dst (N := 10) rfl ?_); refine boxE (N := 10) (cs := #[.slice none 0 0, .int .i64 0]) (t := 27) ?_; intro gb254 hg w33 hbox hb; replace HO_248000 := Aside0.mk (Kd.S_below (U HO_248000.out) hb); replace HO251 := Aside0.mk (Kd.S_below (U HO251.out) hb); have BK254 := Aside0.mk (hbox); have GW254 := GS w hg; have GE254 := GS w hg; replace HB := BS hb; have NB241_254 := NL BK241 hg; have NB254_241 := NG BK241 hg; replace BK241 := bB BK241 hb; have NB247_254 := NL BK247 hg; have NB254_247 := NG BK247 hg; replace BK247 := bB BK247 hb; clear hb hbox hg; obtain ⟨Ao34, co34, eo34⟩ := Kd.S_slice HO251.out; subst eo34; have hnb35 := NB254_241.out; have hnc35 := NB241_254.out; have hnb36 := NB254_247.out; have hnc36 := NB247_254.out; obtain ⟨hcz37_0, hcz37_1, hfz37_0, hfz37_1⟩ := bcf BK254; have hnb38 := NB241_247.out; have hnc38 := NB247_241.out; obtain ⟨hcz39_0, hcz39_1, hfz39_0, hfz39_1⟩ := bcf BK241))
          refine bodyPost_ret (results_ct rfl _ _ gb241 27 #[.slice none 0 0, .int .i64 0] (0, 0) _ rfl (by (with_reducible repeat (first | refine blk_drewN ?_ _ | refine blk_drew ?_ | refine blk_alloc ?_ _)); refine blk_put (cs := #[.slice none 0 0, .int .i64 x242001_1]) ?_ 1 _ rfl; (with_reducible repeat (first | refine blk_drewN ?_ _ | refine blk_drew ?_ | refine blk_alloc ?_ _)); refine blk_put (cs := #[.slice none 0 0, .int .i64 x242001_1]) ?_ 0 _ rfl; (with_reducible repeat (first | refine blk_drewN ?_ _ | refine blk_drew ?_ | refine blk_alloc ?_ _)); refine blk_far ?_ NB241_254.out _; (with_reducible repeat (first | refine blk_drewN ?_ _ | refine blk_drew ?_ | refine blk_alloc ?_ _)); refine blk_far ?_ NB241_254.out _; (with_reducible repeat (first | refine blk_drewN ?_ _ | refine blk_drew ?_ | refine blk_alloc ?_ _)); exact BK241.out) Try.underlying27 rfl (by kernel_rfl)) rfl ?_
          exact ⟨_, eR, by first | exact Kd.S_nil _ _ _ _ _ | exact Kd.N_nil _ _ _ _ _ | exact Kd.V_nil _ _ _ _ _ | exact Kd.Q_nil _ _ _ _ _ | exact Kd.R_nil _ _ _ _ _, BU⟩
        replace c17 := Bool.eq_false_iff.mpr c17; subst c17; replace H := ifF H; simp only [Option.some.injEq, Prod.mk.injEq] at H; obtain ⟨rfl, rfl, rfl⟩ := H; have p248 : 0 ≤ (x23_1 : Int) := oD; have q248 : x23_1 < (l1.length : Int) := oD; obtain ⟨ad248, A248_0, c248_0, e248, hx248_0, hl248_0, hi248_0⟩ := at_L1 HR1.out x23_1 p248 q248; cases e248; replace hx248_0 := (HB.out.cell (World.block_lt_of_cell? w _ hx248_0)).trans hx248_0; have HR248_0 := Aside0.mk hi248_0; have HC248_0 := Aside0.mk hl248_0; clear hi248_0 hl248_0; replace p248 := eq_true p248; replace q248 := eq_true q248
        go_wp2_with (first | ((with_reducible refine gate_callee (f := 17) rfl ?_); refine goesK (some 30) Try.func17 #[.slice A0 l0.length c0, .slice A248_0 (rd_L1 l1 x23_1).length c248_0] ?_; (with_reducible refine (impl_MoveMirror.calls k1 _ _ l0 _ _ (rd_L1 l1 x23_1) t249 t252 t253 _ ?side1 ?side2 ?side3 ?side4 A16.out).mono ?_); (case side1 => exact U (Kd.C_below HR0.out HB.out)); (case side2 => exact HC0.out); (case side3 => exact U (Kd.C_below HR248_0.out HB.out)); (case side4 => exact HC248_0.out); rintro e w40 ⟨v250, rfl, ho0, hb⟩; refine ⟨_, rfl, ?_⟩; have HO251 := Aside0.mk (Kd.S_lower (Kd.S_new' ho0 (Kd.S_lt (U HO_248000.out))) (below_size BU)); replace HO_248000 := Aside0.mk (Kd.S_elder' (U HO_248000.out) (Kd.S_base ho0) hb); replace BK241 := bB BK241 hb; replace BK247 := bB BK247 hb; replace HB := BS hb; (try clear hb); (try clear ho0)) | ((with_reducible refine gate_dst (N := 10) rfl ?_); refine boxE (N := 10) (cs := #[.slice none 0 0, .int .i64 0]) (t := 27) ?_; intro gb254 hg w41 hbox hb; replace HO_248000 := Aside0.mk (Kd.S_below (U HO_248000.out) hb); replace HO251 := Aside0.mk (Kd.S_below (U HO251.out) hb); have BK254 := Aside0.mk (hbox); have GW254 := GS w hg; have GE254 := GS w hg; replace HB := BS hb; have NB241_254 := NL BK241 hg; have NB254_241 := NG BK241 hg; replace BK241 := bB BK241 hb; have NB247_254 := NL BK247 hg; have NB254_247 := NG BK247 hg; replace BK247 := bB BK247 hb; clear hb hbox hg; obtain ⟨Ao42, co42, eo42⟩ := Kd.S_slice HO251.out; subst eo42; have hnb43 := NB254_241.out; have hnc43 := NB241_254.out; have hnb44 := NB254_247.out; have hnc44 := NB247_254.out; obtain ⟨hcz45_0, hcz45_1, hfz45_0, hfz45_1⟩ := bcf BK254; have hnb46 := NB241_247.out; have hnc46 := NB247_241.out; obtain ⟨hcz47_0, hcz47_1, hfz47_0, hfz47_1⟩ := bcf BK241))
        refine bodyPost_ret (results_ct rfl _ _ gb241 27 #[.slice none 0 0, .int .i64 0] (0, 0) _ rfl (by (with_reducible repeat (first | refine blk_drewN ?_ _ | refine blk_drew ?_ | refine blk_alloc ?_ _)); refine blk_put (cs := #[.slice none 0 0, .int .i64 x242001_1]) ?_ 1 _ rfl; (with_reducible repeat (first | refine blk_drewN ?_ _ | refine blk_drew ?_ | refine blk_alloc ?_ _)); refine blk_put (cs := #[.slice none 0 0, .int .i64 x242001_1]) ?_ 0 _ rfl; (with_reducible repeat (first | refine blk_drewN ?_ _ | refine blk_drew ?_ | refine blk_alloc ?_ _)); refine blk_far ?_ NB241_254.out _; (with_reducible repeat (first | refine blk_drewN ?_ _ | refine blk_drew ?_ | refine blk_alloc ?_ _)); refine blk_far ?_ NB241_254.out _; (with_reducible repeat (first | refine blk_drewN ?_ _ | refine blk_drew ?_ | refine blk_alloc ?_ _)); exact BK241.out) Try.underlying27 rfl (by kernel_rfl)) rfl ?_
        exact ⟨_, eR, by first | exact Kd.S_nil _ _ _ _ _ | exact Kd.N_nil _ _ _ _ _ | exact Kd.V_nil _ _ _ _ _ | exact Kd.Q_nil _ _ _ _ _ | exact Kd.R_nil _ _ _ _ _, BU⟩
      rw [if_neg c13] at H; have c13b0 : decide (x23_1 < (l1.length : Int)) = false := decide_eq_false c13; clear c13
      by_cases c48 : x7_1 = true
      · subst c48
        replace H := ifT H; simp only [Option.some.injEq, Prod.mk.injEq] at H; obtain ⟨rfl, rfl, rfl⟩ := H; have hnb49 := NB247_241.out; have hnc49 := NB241_247.out; obtain ⟨hcz50_0, hcz50_1, hfz50_0, hfz50_1⟩ := bcf BK247; obtain ⟨Ao51, co51, eo51⟩ := Kd.S_slice HO_248000.out; subst eo51; obtain ⟨hcz52_0, hcz52_1, hfz52_0, hfz52_1⟩ := bcf BK241
        go_wp2
        refine bodyPost_ret (results_ct rfl _ _ gb241 27 #[.slice Ao51 x248000_1.length co51, .int .i64 x248001_1] (0, 0) _ rfl (by (with_reducible repeat (first | refine blk_drewN ?_ _ | refine blk_drew ?_ | refine blk_alloc ?_ _)); refine blk_put (cs := #[.slice Ao51 x248000_1.length co51, .int .i64 x242001_1]) ?_ 1 _ rfl; (with_reducible repeat (first | refine blk_drewN ?_ _ | refine blk_drew ?_ | refine blk_alloc ?_ _)); refine blk_put (cs := #[.slice none 0 0, .int .i64 x242001_1]) ?_ 0 _ rfl; (with_reducible repeat (first | refine blk_drewN ?_ _ | refine blk_drew ?_ | refine blk_alloc ?_ _)); exact BK241.out) Try.underlying27 rfl (by kernel_rfl)) rfl ?_
        exact ⟨_, eR, Kd.SM (Kd.S_far (p := ⟨gb241, 1, none⟩) (Kd.S_far (p := ⟨gb241, 0, none⟩) (Kd.S_types HO_248000.out BK241.out (by decide)) (fun _ hk => hk.2) (.slice Ao51 x248000_1.length co51)) (fun _ hk => hk.2) (.int .i64 x248001_1)) (fun _ hk => trivial), BU⟩
      replace c48 := Bool.eq_false_iff.mpr c48; subst c48; replace H := ifF H; simp only [Option.some.injEq, Prod.mk.injEq] at H; obtain ⟨rfl, rfl, rfl⟩ := H; have hnb53 := NB241_247.out; have hnc53 := NB247_241.out; obtain ⟨hcz54_0, hcz54_1, hfz54_0, hfz54_1⟩ := bcf BK241
      go_wp2
      refine bodyPost_ret (results_ct rfl _ _ gb241 27 #[.slice none 0 0, .int .i64 0] (0, 0) _ rfl (by (with_reducible repeat (first | refine blk_drewN ?_ _ | refine blk_drew ?_ | refine blk_alloc ?_ _)); refine blk_put (cs := #[.slice none 0 0, .int .i64 x242001_1]) ?_ 1 _ rfl; (with_reducible repeat (first | refine blk_drewN ?_ _ | refine blk_drew ?_ | refine blk_alloc ?_ _)); refine blk_put (cs := #[.slice none 0 0, .int .i64 x242001_1]) ?_ 0 _ rfl; (with_reducible repeat (first | refine blk_drewN ?_ _ | refine blk_drew ?_ | refine blk_alloc ?_ _)); exact BK241.out) Try.underlying27 rfl (by kernel_rfl)) rfl ?_
      exact ⟨_, eR, by first | exact Kd.S_nil _ _ _ _ _ | exact Kd.N_nil _ _ _ _ _ | exact Kd.V_nil _ _ _ _ _ | exact Kd.Q_nil _ _ _ _ _ | exact Kd.R_nil _ _ _ _ _, BU⟩

/-! ### slices_Equal_int_int: function 72 -/
def slices_Equal_int_int.l0 : Nat → List Int → List Int → Int → Int → Option (Bool)
  | 0, _, _, _, _ => none
  | k + 1, x0, x1, x12, x13 => if x13 < x12 then (if 0 ≤ x13 then (if x13 < (x0.length : Int) then (if x13 < (x1.length : Int) then (if (rd x0 x13) = (rd x1 x13) then (slices_Equal_int_int.l0 k x0 x1 x12 (wrap64 (x13 + 1))) else (some false)) else (none)) else (none)) else (none)) else (some true)
def slices_Equal_int_int.f (k : Nat) (l0 : List Int) (l1 : List Int) : Option (Bool) := if (l0.length : Int) = (l1.length : Int) then (slices_Equal_int_int.l0 k l0 l1 (l0.length : Int) 0) else (some false)
theorem slices_Equal_int_int.mono_l : ∀ k, (∀ y0 y1 y2 y3, LeO (slices_Equal_int_int.l0 k y0 y1 y2 y3) (slices_Equal_int_int.l0 (k + 1) y0 y1 y2 y3))
  | 0 => fun _ _ _ _ r h => by simp [slices_Equal_int_int.l0] at h
  | k + 1 => by
    have ih0 := slices_Equal_int_int.mono_l k
    · intro y0 y1 y2 y3
      unfold slices_Equal_int_int.l0
      with_reducible repeat' first | exact ih0 _ _ _ _ | exact LeO.refl _ | exact LeO.none _ | refine LeO.ite ?_ ?_ | refine LeO.bind ?_ (fun _ => ?_)
theorem slices_Equal_int_int.mono : ∀ a0 a1 k, LeO (slices_Equal_int_int.f k a0 a1) (slices_Equal_int_int.f (k + 1) a0 a1) := by
  intro a0 a1 k
  have ih0 := slices_Equal_int_int.mono_l k
  unfold slices_Equal_int_int.f
  with_reducible repeat' first | exact ih0 _ _ _ _ | exact LeO.refl _ | exact LeO.none _ | refine LeO.ite ?_ ?_ | refine LeO.bind ?_ (fun _ => ?_)
set_option maxHeartbeats 8000000 in
set_option maxRecDepth 100000 in
theorem slices_Equal_int_int.calls (k : Nat) (A0 : Option Addr) (c0 : Nat) (l0 : List Int) (A1 : Option Addr) (c1 : Nat) (l1 : List Int) (r : Bool) (w : World) (hr0 : Kd.C (Kd.int .i64) w A0 l0.length l0) (hc0 : l0.length ≤ c0) (hr1 : Kd.C (Kd.int .i64) w A1 l1.length l1) (hc1 : l1.length ≤ c1) (h : slices_Equal_int_int.f k l0 l1 = some r) :
    Calls Try.prog 72 #[.slice A0 l0.length c0, .slice A1 l1.length c1] w fun e w' => e = .returned (.bool r) ∧ Drawn0 w w' := by
  have HR0 := Aside0.mk hr0; have HC0 := Aside0.mk hc0; clear hr0 hc0; have HR1 := Aside0.mk hr1; have HC1 := Aside0.mk hc1; clear hr1 hc1; unfold slices_Equal_int_int.f at h; have H := h; clear h
  by_cases c3 : (l0.length : Int) = (l1.length : Int)
  · rw [if_pos c3] at H
    have c3b0 : ((l0.length : Int) == (l1.length : Int)) = true := beq_iff_eq.mpr c3; have c3b1 : ((l0.length : Int) != (l1.length : Int)) = false := bne_eq_false_iff_eq.mpr c3
    have c3b2 : (l0.length == l1.length) = true := by first | simpa using c3 | (simp at c3 ⊢; omega)
    clear c3; have H' := Aside0.mk H; clear H; go_enter Try.func72, Try.ntmps72
    go_wp2
    repeat (go_quiet (fail); try go_wp2)
    go_loopg [13] k (fun kq v13 w' => ∃ (x13_1 : Int), v13 = .int .i64 x13_1 ∧ Aside0 (slices_Equal_int_int.l0 kq l0 l1 (l0.length : Int) x13_1 = some r) ∧ Aside0 (kq ≤ k) ∧ Drawn0 w w')
    case atStart => exact ⟨(0), sR, H', ⟨Nat.le_refl _⟩, by repeat (first | exact Drawn0.refl _ | apply Drawn0.step)⟩
    case round =>
      clear H'; (try clear c3); (try clear c3b0); (try clear c3b1); (try clear c3b2); obtain ⟨x13_1, rfl, HA, HK1, ⟨m1, rfl⟩⟩ := hrel; cases gk with
      | zero => exact absurd HA.out (by simp [slices_Equal_int_int.l0])
      | succ k1 =>
        have H := HA.out; clear HA; simp only [slices_Equal_int_int.l0] at H
        by_cases c4 : x13_1 < (l0.length : Int)
        · rw [if_pos c4] at H
          have c4b0 : decide (x13_1 < (l0.length : Int)) = true := decide_eq_true c4; clear c4; obtain ⟨c5, H⟩ := ifN H; have c5b0 : decide (0 ≤ x13_1) = true := decide_eq_true c5; clear c5; obtain ⟨c6, H⟩ := ifN H; have c6b0 : decide (x13_1 < (l0.length : Int)) = true := decide_eq_true c6; clear c6; obtain ⟨c7, H⟩ := ifN H; have c7b0 : decide (x13_1 < (l1.length : Int)) = true := decide_eq_true c7; clear c7
          by_cases c8 : (rd l0 x13_1) = (rd l1 x13_1)
          · rw [if_pos c8] at H
            have c8b0 : ((rd l0 x13_1) == (rd l1 x13_1)) = true := beq_iff_eq.mpr c8; have c8b1 : ((rd l0 x13_1) != (rd l1 x13_1)) = false := bne_eq_false_iff_eq.mpr c8; clear c8; have H' := Aside0.mk H; clear H; have p260 : 0 ≤ (x13_1 : Int) := oD; have q260 : x13_1 < (l0.length : Int) := oD; obtain ⟨ad260, e260, hx260_0⟩ := Kd.at_int HR0.out x13_1 p260 q260; cases e260; replace p260 := eq_true p260; replace q260 := eq_true q260; have p261 : 0 ≤ (x13_1 : Int) := oD; have q261 : x13_1 < (l1.length : Int) := oD; obtain ⟨ad261, e261, hx261_0⟩ := Kd.at_int HR1.out x13_1 p261 q261; cases e261; replace p261 := eq_true p261; replace q261 := eq_true q261
            go_wp2
            repeat (go_quiet (fail); try go_wp2)
            go_roundg k1
            case measure => have := HK1.out; omega
            case rel => exact ⟨(wrap64 (x13_1 + 1)), sR, H', ⟨by have := HK1.out; omega⟩, by repeat (first | exact Drawn0.refl _ | apply Drawn0.step)⟩
          rw [if_neg c8] at H; have c8b0 : ((rd l0 x13_1) == (rd l1 x13_1)) = false := beq_eq_false_iff_ne.mpr c8; have c8b1 : ((rd l0 x13_1) != (rd l1 x13_1)) = true := bne_iff_ne.mpr c8; obtain rfl := Option.some.inj H; have p260 : 0 ≤ (x13_1 : Int) := oD; have q260 : x13_1 < (l0.length : Int) := oD; obtain ⟨ad260, e260, hx260_0⟩ := Kd.at_int HR0.out x13_1 p260 q260; cases e260; replace p260 := eq_true p260; replace q260 := eq_true q260; have p261 : 0 ≤ (x13_1 : Int) := oD; have q261 : x13_1 < (l1.length : Int) := oD; obtain ⟨ad261, e261, hx261_0⟩ := Kd.at_int HR1.out x13_1 p261 q261; cases e261; replace p261 := eq_true p261; replace q261 := eq_true q261
          go_wp2
          repeat (go_quiet (fail); try go_wp2)
          go_ret
          exact ⟨by first | rfl | (simp; done) | (simp [*]; done), by repeat (first | exact Drawn0.refl _ | apply Drawn0.step)⟩
        rw [if_neg c4] at H; have c4b0 : decide (x13_1 < (l0.length : Int)) = false := decide_eq_false c4; clear c4; obtain rfl := Option.some.inj H
        go_wp2
        repeat (go_quiet (fail); try go_wp2)
        go_ret
        exact ⟨by first | rfl | (simp; done) | (simp [*]; done), by repeat (first | exact Drawn0.refl _ | apply Drawn0.step)⟩
  rw [if_neg c3] at H; have c3b0 : ((l0.length : Int) == (l1.length : Int)) = false := beq_eq_false_iff_ne.mpr c3; have c3b1 : ((l0.length : Int) != (l1.length : Int)) = true := bne_iff_ne.mpr c3
  have c3b2 : (l0.length == l1.length) = false := by first | simpa using c3 | (simp at c3 ⊢; omega)
  obtain rfl := Option.some.inj H; go_enter Try.func72, Try.ntmps72
  go_wp2
  go_ret
  exact ⟨by first | rfl | (simp; done) | (simp [*]; done), by repeat (first | exact Drawn0.refl _ | apply Drawn0.step)⟩

/-! ### impl_combined: function 73 -/
def impl_combined.l0 : Nat → List Int → Int → List Int → List Int → Int → Int → Option (List Int)
  | 0, _, _, _, _, _, _ => none
  | k + 1, x0, x1, x2, x7, x11, x12 => if x12 < x11 then (if 0 ≤ x12 then (if x12 < (x0.length : Int) then (if x12 < (x2.length : Int) then (if x7.length < 17592186044416 then (impl_combined.l0 k x0 x1 x2 (x7 ++ [wrap64 ((rd x0 x12) + (wrap64 (x1 * (rd x2 x12))))]) x11 (wrap64 (x12 + 1))) else (none)) else (none)) else (none)) else (none)) else (some x7)
def impl_combined.f (k : Nat) (l0 : List Int) (a1 : Int) (l2 : List Int) : Option (List Int) := impl_combined.l0 k l0 a1 l2 (([] : List Int)) (l0.length : Int) 0
theorem impl_combined.mono_l : ∀ k, (∀ y0 y1 y2 y3 y4 y5, LeO (impl_combined.l0 k y0 y1 y2 y3 y4 y5) (impl_combined.l0 (k + 1) y0 y1 y2 y3 y4 y5))
  | 0 => fun _ _ _ _ _ _ r h => by simp [impl_combined.l0] at h
  | k + 1 => by
    have ih0 := impl_combined.mono_l k
    · intro y0 y1 y2 y3 y4 y5
      unfold impl_combined.l0
      with_reducible repeat' first | exact ih0 _ _ _ _ _ _ | exact LeO.refl _ | exact LeO.none _ | refine LeO.ite ?_ ?_ | refine LeO.bind ?_ (fun _ => ?_)
theorem impl_combined.mono : ∀ a0 a1 a2 k, LeO (impl_combined.f k a0 a1 a2) (impl_combined.f (k + 1) a0 a1 a2) := by
  intro a0 a1 a2 k
  have ih0 := impl_combined.mono_l k
  unfold impl_combined.f
  with_reducible repeat' first | exact ih0 _ _ _ _ _ _ | exact LeO.refl _ | exact LeO.none _ | refine LeO.ite ?_ ?_ | refine LeO.bind ?_ (fun _ => ?_)
def impl_combined.T5 : Bool × List (List Nat × List Nat) := (true, [([], []), ([], []), ([], []), ([1, 2], [1, 2]), ([3], [3]), ([], []), ([], []), ([], []), ([6, 7], [6, 7]), ([8], [8]), ([5, 9], [5, 9]), ([4, 10], [4, 10]), ([11], [11]), ([0, 12], [0, 12]), ([13, 13, 0, 1, 2, 3, 4, 5, 6, 7, 8, 9, 10, 11, 12, 13], [0, 13])])
def impl_combined.B5 : List Nat := [0, 0, 0, 6, 14, 0, 0, 0, 192, 448, 992, 2046, 4094, 8191, 16383]
theorem impl_combined.tab5 : rtab .any (opsOf Try.f73 5) = impl_combined.T5 := by kernel_rfl
theorem impl_combined.bits5 : waitsOk impl_combined.T5.2 impl_combined.B5 = true := by kernel_rfl
set_option maxHeartbeats 8000000 in
set_option maxRecDepth 100000 in
theorem impl_combined.calls (k : Nat) (A0 : Option Addr) (c0 : Nat) (l0 : List Int) (a1 : Int) (A2 : Option Addr) (c2 : Nat) (l2 : List Int) (r : List Int) (w : World) (hr0 : Kd.C (Kd.int .i64) w A0 l0.length l0) (hc0 : l0.length ≤ c0) (hr2 : Kd.C (Kd.int .i64) w A2 l2.length l2) (hc2 : l2.length ≤ c2) (h : impl_combined.f k l0 a1 l2 = some r) :
    Calls Try.prog 73 #[.slice A0 l0.length c0, .int .i64 a1, .slice A2 l2.length c2] w fun e w' => ∃ v0_ : Value, e = .returned (v0_) ∧ Kd.R (Kd.int .i64) 3 w' w.heap.size (fun _ => True) v0_ r ∧ Below w.heap.size w w' := by
  have HR0 := Aside0.mk hr0; have HC0 := Aside0.mk hc0; clear hr0 hc0; have HR2 := Aside0.mk hr2; have HC2 := Aside0.mk hc2; clear hr2 hc2; have HB := Aside0.mk (Below.refl w.heap.size w); unfold impl_combined.f at h; have H := h; clear h; obtain ⟨y262, hy262⟩ : ∃ y_ : List Int, y_ = (([] : List Int)) := ⟨_, rfl⟩; replace H : (impl_combined.l0 k l0 a1 l2 y262 (l0.length : Int) 0) = some r := rH hy262 H; have Ny262 := Aside0.mk hy262; clear hy262; have H' := Aside0.mk H; clear H; go_enter Try.func73, Try.ntmps73
  go_wp2_with (first | ((with_reducible refine gate_dst (N := 9) rfl ?_); refine Kd.R_lit (Kd.int .i64) _ 3 ?hg (N := 9) ?hd (xs := ([] : List Int)) (inner := []) (ok := fun _ => True) (okp := fun _ => True) ?hr ?hp (fun _ hk => hk) trivial (Below.refl _ _) (Nat.le_refl _) (by simp) ?_; (case hd => rfl); (case hg => rfl); (case hr => first | (go_simp; done) | (go_simp; rfl)); (case hp => exact (Reps.none _ _)); intro v263 w4 ho5 hb hg_ hnew_; clear hg_ hnew_; (first | rw [← Ny262.out] at ho5 | (simp only [Int.reduceToNat] at ho5; rw [← Ny262.out] at ho5)); have HO264 := Aside0.mk (Kd.R_lower ho5 (below_size BU)); replace HB := BS hb; clear hb ho5))
  go_loopg [7, 12] k (fun kq v7 v12 w' => ∃ (x7_1 : List Int) (x12_1 : Int), v12 = .int .i64 x12_1 ∧ Aside0 (impl_combined.l0 kq l0 a1 l2 x7_1 (l0.length : Int) x12_1 = some r) ∧ Aside0 (kq ≤ k) ∧ Aside0 (Kd.R (Kd.int .i64) 3 w' w.heap.size (fun _ => True) v7 x7_1) ∧ Aside0 (Below w.heap.size w w'))
  case atStart => exact ⟨(y262), (0), sR, H', ⟨Nat.le_refl _⟩, ⟨U HO264.out⟩, ⟨BU⟩⟩
  case round =>
    clear H'; obtain ⟨x7_1, x12_1, rfl, HA, HK1, HO_7, HB⟩ := hrel; cases gk with
    | zero => exact absurd HA.out (by simp [impl_combined.l0])
    | succ k1 =>
      have H := HA.out; clear HA; simp only [impl_combined.l0] at H
      by_cases c6 : x12_1 < (l0.length : Int)
      · rw [if_pos c6] at H
        have c6b0 : decide (x12_1 < (l0.length : Int)) = true := decide_eq_true c6; clear c6; obtain ⟨c7, H⟩ := ifN H; have c7b0 : decide (0 ≤ x12_1) = true := decide_eq_true c7; clear c7; obtain ⟨c8, H⟩ := ifN H; have c8b0 : decide (x12_1 < (l0.length : Int)) = true := decide_eq_true c8; clear c8; obtain ⟨c9, H⟩ := ifN H; have c9b0 : decide (x12_1 < (l2.length : Int)) = true := decide_eq_true c9; clear c9; obtain ⟨c10, H⟩ := ifN H; have LMc10 := Aside0.mk c10; clear c10; obtain ⟨y267, hy267⟩ : ∃ y_ : List Int, y_ = (x7_1 ++ [wrap64 ((rd l0 x12_1) + (wrap64 (a1 * (rd l2 x12_1))))]) := ⟨_, rfl⟩; replace H : (impl_combined.l0 k1 l0 a1 l2 y267 (l0.length : Int) (wrap64 (x12_1 + 1))) = some r := rH hy267 H; have Ny267 := Aside0.mk hy267; clear hy267; have H' := Aside0.mk H; clear H
        try go_wp2
        replace HO_7 := Aside0.mk (Kd.R_drew HO_7.out); replace HB := Aside0.mk (below_drew1 HB.out); have p265 : 0 ≤ (x12_1 : Int) := oD; have q265 : x12_1 < (l0.length : Int) := oD; obtain ⟨ad265, e265, hx265_0⟩ := Kd.at_int HR0.out x12_1 p265 q265; have hw265_0 := hx265_0; cases e265; replace hx265_0 := (HB.out.cell (World.block_lt_of_cell? w _ hx265_0)).trans hx265_0; replace p265 := eq_true p265; replace q265 := eq_true q265; have p266 : 0 ≤ (x12_1 : Int) := oD; have q266 : x12_1 < (l2.length : Int) := oD; obtain ⟨ad266, e266, hx266_0⟩ := Kd.at_int HR2.out x12_1 p266 q266; have hw266_0 := hx266_0; cases e266; replace hx266_0 := (HB.out.cell (World.block_lt_of_cell? w _ hx266_0)).trans hx266_0; replace p266 := eq_true p266; replace q266 := eq_true q266
        refine start_ (n := 15) (S := fun w' => w'.cell? (ad265.add (x12_1).toNat) = some (.int .i64 (rd l0 x12_1)) ∧ w'.cell? (ad266.add (x12_1).toNat) = some (.int .i64 (rd l2 x12_1))) (ds := []) #[false, false, false, false, false, false, false, false, false, false, false, false, false, false, false] (by kernel_rfl) rfl rfl ⟨((HB.out.cell (World.block_lt_of_cell? w _ hw265_0)).trans hw265_0), ((HB.out.cell (World.block_lt_of_cell? w _ hw266_0)).trans hw266_0)⟩ (fun hHeld => ?_); refine with_tabW impl_combined.tab5 impl_combined.bits5 (fun HT_ HW_ => ?_)
        generalize wr.drew = w11 at HO_7 HB hx265_0 hx266_0 hHeld ⊢
        refine pure_ (i := 0) (N := some 15) (v := ?_) (a' := ?_) #[true, false, false, false, false, false, false, false, false, false, false, false, false, false, false] rfl rfl (any_of HT_.out (by kernel_rfl)) (fun _ _ _ h => h) (Or.inl ⟨by rfl, ?_⟩) ?_ ?_
        rotate_left
        · intro w'
          go_simp
          with_reducible rfl
        rotate_left
        · simp only [Act.put, List.setIfInBounds_toArray, List.set_cons_zero, List.set_cons_succ, i64_w, i32_w]
          rfl
        refine pure_ (i := 1) (N := some 16) (v := ?_) (a' := ?_) #[true, true, false, false, false, false, false, false, false, false, false, false, false, false, false] rfl rfl (any_of HT_.out (by kernel_rfl)) (fun _ _ _ h => h) (Or.inl ⟨by rfl, ?_⟩) ?_ ?_
        rotate_left
        · intro w'
          go_simp
          with_reducible rfl
        rotate_left
        · simp only [Act.put, List.setIfInBounds_toArray, List.set_cons_zero, List.set_cons_succ, i64_w, i32_w]
          rfl
        refine pure_ (i := 2) (N := some 17) (v := ?_) (a' := ?_) #[true, true, true, false, false, false, false, false, false, false, false, false, false, false, false] rfl rfl (any_of HT_.out (by kernel_rfl)) (fun _ _ _ h => h) (Or.inl ⟨by rfl, ?_⟩) ?_ ?_
        rotate_left
        · intro w'
          go_simp
          with_reducible rfl
        rotate_left
        · simp only [Act.put, List.setIfInBounds_toArray, List.set_cons_zero, List.set_cons_succ, i64_w, i32_w]
          rfl
        refine pure_ (i := 3) (N := some 18) (v := ?_) (a' := ?_) #[true, true, true, true, false, false, false, false, false, false, false, false, false, false, false] rfl rfl (any_of HT_.out (by kernel_rfl)) (fun _ _ _ h => h) (Or.inl ⟨by rfl, ?_⟩) ?_ ?_
        rotate_left
        · intro w'
          go_simp
          with_reducible rfl
        rotate_left
        · simp only [Act.put, List.setIfInBounds_toArray, List.set_cons_zero, List.set_cons_succ, i64_w, i32_w]
          rfl
        refine pure_ (i := 5) (N := some 20) (v := ?_) (a' := ?_) #[true, true, true, true, false, true, false, false, false, false, false, false, false, false, false] rfl rfl (any_of HT_.out (by kernel_rfl)) (fun _ _ _ h => h) (Or.inl ⟨by rfl, ?_⟩) ?_ ?_
        rotate_left
        · intro w'
          go_simp
          with_reducible rfl
        rotate_left
        · simp only [Act.put, List.setIfInBounds_toArray, List.set_cons_zero, List.set_cons_succ, i64_w, i32_w]
          rfl
        refine pure_ (i := 6) (N := some 21) (v := ?_) (a' := ?_) #[true, true, true, true, false, true, true, false, false, false, false, false, false, false, false] rfl rfl (any_of HT_.out (by kernel_rfl)) (fun _ _ _ h => h) (Or.inl ⟨by rfl, ?_⟩) ?_ ?_
        rotate_left
        · intro w'
          go_simp
          with_reducible rfl
        rotate_left
        · simp only [Act.put, List.setIfInBounds_toArray, List.set_cons_zero, List.set_cons_succ, i64_w, i32_w]
          rfl
        refine pure_ (i := 7) (N := some 22) (v := ?_) (a' := ?_) #[true, true, true, true, false, true, true, true, false, false, false, false, false, false, false] rfl rfl (any_of HT_.out (by kernel_rfl)) (fun _ _ _ h => h) (Or.inl ⟨by rfl, ?_⟩) ?_ ?_
        rotate_left
        · intro w'
          go_simp
          with_reducible rfl
        rotate_left
        · simp only [Act.put, List.setIfInBounds_toArray, List.set_cons_zero, List.set_cons_succ, i64_w, i32_w]
          rfl
        refine pure_ (i := 8) (N := some 23) (v := ?_) (a' := ?_) #[true, true, true, true, false, true, true, true, true, false, false, false, false, false, false] rfl rfl (any_of HT_.out (by kernel_rfl)) (fun _ _ _ h => h) (Or.inl ⟨by rfl, ?_⟩) ?_ ?_
        rotate_left
        · intro w'
          go_simp
          with_reducible rfl
        rotate_left
        · simp only [Act.put, List.setIfInBounds_toArray, List.set_cons_zero, List.set_cons_succ, i64_w, i32_w]
          rfl
        refine take_ (i := 4) (N := some 19) (v := ?_) (a' := ?_) #[true, true, true, true, true, true, true, true, true, false, false, false, false, false, false] rfl rfl (take_ofW HT_.out HW_.out (by kernel_rfl)) (fun _ _ _ h => h) (Or.inl ⟨by rfl, ?_⟩) hHeld ?_ ?_
        rotate_left
        · rintro w' ⟨s0, s1⟩
          go_simp
          with_reducible rfl
        rotate_left
        · simp only [Act.put, List.setIfInBounds_toArray, List.set_cons_zero, List.set_cons_succ, i64_w, i32_w]
          rfl
        refine take_ (i := 9) (N := some 24) (v := ?_) (a' := ?_) #[true, true, true, true, true, true, true, true, true, true, false, false, false, false, false] rfl rfl (take_ofW HT_.out HW_.out (by kernel_rfl)) (fun _ _ _ h => h) (Or.inl ⟨by rfl, ?_⟩) hHeld ?_ ?_
        rotate_left
        · rintro w' ⟨s0, s1⟩
          go_simp
          with_reducible rfl
        rotate_left
        · simp only [Act.put, List.setIfInBounds_toArray, List.set_cons_zero, List.set_cons_succ, i64_w, i32_w]
          rfl
        refine pure_ (i := 10) (N := some 25) (v := ?_) (a' := ?_) #[true, true, true, true, true, true, true, true, true, true, true, false, false, false, false] rfl rfl (any_of HT_.out (by kernel_rfl)) (fun _ _ _ h => h) (Or.inl ⟨by rfl, ?_⟩) ?_ ?_
        rotate_left
        · intro w'
          go_simp
          with_reducible rfl
        rotate_left
        · simp only [Act.put, List.setIfInBounds_toArray, List.set_cons_zero, List.set_cons_succ, i64_w, i32_w]
          rfl
        refine pure_ (i := 11) (N := some 26) (v := ?_) (a' := ?_) #[true, true, true, true, true, true, true, true, true, true, true, true, false, false, false] rfl rfl (any_of HT_.out (by kernel_rfl)) (fun _ _ _ h => h) (Or.inl ⟨by rfl, ?_⟩) ?_ ?_
        rotate_left
        · intro w'
          go_simp
          with_reducible rfl
        rotate_left
        · simp only [Act.put, List.setIfInBounds_toArray, List.set_cons_zero, List.set_cons_succ, i64_w, i32_w]
          rfl
        refine one_ (i := 12) (N := some 27) #[true, true, true, true, true, true, true, true, true, true, true, true, true, false, false] rfl rfl (one_of HT_.out (by kernel_rfl)) (by decide) (fun K hK => ?_)
        refine value_ (w1 := ?_) (v := ?_) (by rfl) rfl ?_ ?_
        rotate_left 2
        · go_simp
          constructor
          · rfl
          rfl
        refine hK.out _ _ ⟨(World.cell?_alloc_lt _ _ _ (World.block_lt_of_cell? _ _ (((HB.out.cell (World.block_lt_of_cell? w _ hw265_0)).trans hw265_0)))).trans (((HB.out.cell (World.block_lt_of_cell? w _ hw265_0)).trans hw265_0)), (World.cell?_alloc_lt _ _ _ (World.block_lt_of_cell? _ _ (((HB.out.cell (World.block_lt_of_cell? w _ hw266_0)).trans hw266_0)))).trans (((HB.out.cell (World.block_lt_of_cell? w _ hw266_0)).trans hw266_0))⟩ (fun hHeld => ?_)
        clear hK K
        refine norm_ (a' := ?_) ?_ ?_
        rotate_left
        · show Act.put _ (some 27) _ = _
          simp only [Act.put, List.setIfInBounds_toArray, List.set_cons_zero, List.set_cons_succ, i64_w, i32_w]
          rfl
        refine one_ (i := 13) (N := some 28) #[true, true, true, true, true, true, true, true, true, true, true, true, true, true, false] rfl rfl (one_of HT_.out (by kernel_rfl)) (by decide) (fun K hK => ?_)
        refine Kd.R_append_step (Kd.int .i64) (w0 := w) w.heap.size (by rfl) (.tmp 15) (.tmp 27) 23 3 (.int .i64 0) 8 rfl Try.underlying23 info3 rfl (by decide) (by omega) u7 x7_1 (wrap64 ((rd l0 x12_1) + (wrap64 (a1 * (rd l2 x12_1))))) [.int .i64 (wrap64 ((rd l0 x12_1) + (wrap64 (a1 * (rd l2 x12_1)))))] (fun _ => True) (fun _ => False) rfl rfl ?aP (fun _ hk => hk.elim) ?aF ?aO ?aB ?aS ?aL ?_
        (case aP => exact rfl)
        (case aB => exact BU)
        (case aF => exact (fun _ _ => trivial))
        (case aO => exact (U HO_7.out))
        (case aS => exact (below_size BU))
        (case aL => have := LMc10.out; omega)
        intro v268 w12 ho hb hg hat; rw [← Ny267.out] at ho; have n0_ := Aside0.mk (hb); have n1_ := Aside0.mk (ho); (try clear HB); clear HO_7; have HB := n0_; have HO269 := n1_; clear n0_ n1_ ho hb hg hat
        refine hK.out _ _ ⟨((HB.out.cell (World.block_lt_of_cell? w _ hw265_0)).trans hw265_0), ((HB.out.cell (World.block_lt_of_cell? w _ hw266_0)).trans hw266_0)⟩ (fun hHeld => ?_)
        clear hK K
        refine norm_ (a' := ?_) ?_ ?_
        rotate_left
        · show Act.put _ (some 28) _ = _
          simp only [Act.put, List.setIfInBounds_toArray, List.set_cons_zero, List.set_cons_succ, i64_w, i32_w]
          rfl
        refine pure_ (i := 14) (N := some 7) (v := ?_) (a' := ?_) #[true, true, true, true, true, true, true, true, true, true, true, true, true, true, true] rfl rfl (any_of HT_.out (by kernel_rfl)) (fun _ _ _ h => h) (Or.inl ⟨by rfl, ?_⟩) ?_ ?_
        rotate_left
        · intro w'
          go_simp
          with_reducible rfl
        rotate_left
        · simp only [Act.put, List.setIfInBounds_toArray, List.set_cons_zero, List.set_cons_succ, i64_w, i32_w]
          rfl
        refine done_ (done_of HT_.out (by kernel_rfl)) ?_
        try go_wp2
        go_roundg k1
        case measure => have := HK1.out; omega
        case rel => exact ⟨(y267), (wrap64 (x12_1 + 1)), sR, H', ⟨by have := HK1.out; omega⟩, ⟨U HO269.out⟩, ⟨BU⟩⟩
      rw [if_neg c6] at H; have c6b0 : decide (x12_1 < (l0.length : Int)) = false := decide_eq_false c6; clear c6; obtain rfl := Option.some.inj H
      go_wp2
      go_ret
      exact ⟨_, eR, U HO_7.out, BU⟩

end Go.Proofs.Ytnbeeogmaamgdaa.PFnSplitMove
