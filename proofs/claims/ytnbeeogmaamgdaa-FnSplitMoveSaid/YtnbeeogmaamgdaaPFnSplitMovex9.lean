import Derived.Test.YtnbeeogmaamgdaaPFnSplitMovex0
import Derived.Test.YtnbeeogmaamgdaaPFnSplitMovex8
namespace Go.Proofs.Ytnbeeogmaamgdaa.PFnSplitMove
open Go.RowKit Go.Proofs.YtnbeeogmaamgdaaW.PrintWords Go.Proofs.YtnbeeogmaamgdaaW.PrintLast Go.Proofs.YtnbeeogmaamgdaaW.PrintMore
attribute [local go_sem] max2_int min2_int max_two min_two max_three min_three max_four min_four   -- for this text's walks alone
set_option linter.unusedVariables false
set_option linter.unusedSimpArgs false

/-! ### spec_l7Stay: function 55 -/
def spec_l7Stay.l0 : Nat → Int → Int → List (List Int) → Int → Option ((List (List Int)) × Int)
  | 0, _, _, _, _ => none
  | k + 1, x0, x4, x292000, x292001 => if x4 < x0 then (if 0 ≤ x0 then (if (x0 : Int).toNat ≤ 35184372088832 then ((some (List.replicate (x0 : Int).toNat 0 : List Int)).bind fun y292 => (if 0 ≤ x4 then (if x4 < (y292.length : Int) then (if x292000.length < 5864062014805 then (spec_l7Stay.l0 k x0 (wrap64 (x4 + 1)) (x292000 ++ [(y292.set (x4 : Int).toNat 1)]) x292001) else (none)) else (none)) else (none))) else (none)) else (none)) else (some (x292000, x292001))
def spec_l7Stay.f (k : Nat) (a0 : Int) : Option ((List (List Int)) × Int) := spec_l7Stay.l0 k a0 0 (([] : List (List Int))) 1
theorem spec_l7Stay.mono_l : ∀ k, (∀ y0 y1 y2 y3, LeO (spec_l7Stay.l0 k y0 y1 y2 y3) (spec_l7Stay.l0 (k + 1) y0 y1 y2 y3))
  | 0 => fun _ _ _ _ r h => by simp [spec_l7Stay.l0] at h
  | k + 1 => by
    have ih0 := spec_l7Stay.mono_l k
    · intro y0 y1 y2 y3
      unfold spec_l7Stay.l0
      with_reducible repeat' first | exact ih0 _ _ _ _ | exact LeO.refl _ | exact LeO.none _ | refine LeO.ite ?_ ?_ | refine LeO.bind ?_ (fun _ => ?_)
theorem spec_l7Stay.mono : ∀ a0 k, LeO (spec_l7Stay.f k a0) (spec_l7Stay.f (k + 1) a0) := by
  intro a0 k
  have ih0 := spec_l7Stay.mono_l k
  unfold spec_l7Stay.f
  with_reducible repeat' first | exact ih0 _ _ _ _ | exact LeO.refl _ | exact LeO.none _ | refine LeO.ite ?_ ?_ | refine LeO.bind ?_ (fun _ => ?_)
set_option maxHeartbeats 8000000 in
set_option maxRecDepth 100000 in
theorem spec_l7Stay.calls (k : Nat) (a0 : Int) (r1 : List (List Int)) (r2 : Int) (w : World) (h : spec_l7Stay.f k a0 = some (r1, r2)) :
    Calls Try.prog 55 #[.int .i64 a0] w fun e w' => ∃ v0_ : Value, e = .returned (.agg #[v0_, .int .i64 r2]) ∧ Kd.S (Kd.slice 3 (Kd.int .i64)) 23 w' w.heap.size (fun _ => True) v0_ r1 ∧ Below w.heap.size w w' := by
  have hu27 := Try.underlying27; have HB := Aside0.mk (Below.refl w.heap.size w); unfold spec_l7Stay.f at h; have H := h; clear h; obtain ⟨y288, hy288⟩ : ∃ y_ : List (List Int), y_ = (([] : List (List Int))) := ⟨_, rfl⟩; replace H : (spec_l7Stay.l0 k a0 0 y288 1) = some (r1, r2) := rH hy288 H; have Ny288 := Aside0.mk hy288; clear hy288; have H' := Aside0.mk H; clear H; go_enter Try.func55, Try.ntmps55
  go_wp2_with (first | ((with_reducible refine gate_dst (N := 2) rfl ?_); refine boxE (N := 2) (cs := #[.slice none 0 0, .int .i64 0]) (t := 27) ?_; intro gb287 hg w2 hbox hb; have BK287 := Aside0.mk (hbox); have GW287 := GS w hg; have GE287 := GS w hg; replace HB := BS hb; clear hb hbox hg) | ((with_reducible refine gate_dst (N := 6) rfl ?_); refine Kd.S_lit (Kd.slice 3 (Kd.int .i64)) _ 23 ?hg (N := 6) ?hd (xs := ([] : List (List Int))) (inner := []) (ok := fun _ => True) (okp := fun _ => True) ?hr ?hp (fun _ hk => hk) trivial (Below.refl _ _) (Nat.le_refl _) (by simp) ?_; (case hd => rfl); (case hg => rfl); (case hr => first | (go_simp; done) | (go_simp; rfl)); (case hp => exact (Reps.none _ _)); intro v289 w3 ho4 hb hg_ hnew_; clear hg_ hnew_; (first | rw [← Ny288.out] at ho4 | (simp only [Int.reduceToNat] at ho4; rw [← Ny288.out] at ho4)); have HO290 := Aside0.mk (Kd.S_lower ho4 (below_size BU)); replace BK287 := bB BK287 hb; replace HB := BS hb; clear hb ho4; obtain ⟨Ao5, co5, eo5⟩ := Kd.S_slice HO290.out; subst eo5) | ((with_reducible refine gate_dst (N := 3) rfl ?_); refine boxE (N := 3) (cs := #[.slice none 0 0, .int .i64 0]) (t := 27) ?_; intro gb291 hg w6 hbox hb; replace HO290 := Aside0.mk (Kd.S_below (U HO290.out) hb); have BK291 := Aside0.mk (hbox); have GW291 := GS w hg; have GE291 := GS w hg; replace HB := BS hb; have NB287_291 := NL BK287 hg; have NB291_287 := NG BK287 hg; replace BK287 := bB BK287 hb; clear hb hbox hg; have hnb7 := NB291_287.out; have hnc7 := NB287_291.out; obtain ⟨hcz8_0, hcz8_1, hfz8_0, hfz8_1⟩ := bcf BK291))
  go_loopg [4] k (fun kq v4 w' => ∃ (x4_1 : Int) (x292000_1 : List (List Int)) (u292000 : Value), v4 = .int .i64 x4_1 ∧ Aside0 (spec_l7Stay.l0 kq a0 x4_1 x292000_1 1 = some (r1, r2)) ∧ Aside0 (kq ≤ k) ∧ Aside0 (Kd.S (Kd.slice 3 (Kd.int .i64)) 23 w' w.heap.size (fun _ => True) u292000 x292000_1) ∧ Aside0 (w'.heap[gb287]? = some (.cells #[(.slice none 0 0), .int .i64 0] 27 (0, 0))) ∧ Aside0 (w'.heap[gb291]? = some (.cells #[u292000, .int .i64 1] 27 (0, 0))) ∧ Aside0 (Below w.heap.size w w'))
  case atStart => exact ⟨(0), (y288), (.slice Ao5 y288.length co5), sR, H', ⟨Nat.le_refl _⟩, ⟨Kd.SM (Kd.S_far (p := ⟨gb291, 1, none⟩) (Kd.S_far (p := ⟨gb291, 0, none⟩) (Kd.S_types HO290.out BK291.out (by decide)) (fun _ hk => hk.2) (.slice Ao5 y288.length co5)) (fun _ hk => hk.2) (.int .i64 1)) (fun _ hk => trivial)⟩, ⟨by (with_reducible repeat (first | refine blk_drewN ?_ _ | refine blk_drew ?_ | refine blk_alloc ?_ _)); refine blk_far ?_ NB287_291.out _; (with_reducible repeat (first | refine blk_drewN ?_ _ | refine blk_drew ?_ | refine blk_alloc ?_ _)); refine blk_far ?_ NB287_291.out _; (with_reducible repeat (first | refine blk_drewN ?_ _ | refine blk_drew ?_ | refine blk_alloc ?_ _)); exact BK287.out⟩, ⟨by (with_reducible repeat (first | refine blk_drewN ?_ _ | refine blk_drew ?_ | refine blk_alloc ?_ _)); refine blk_put (cs := #[.slice Ao5 y288.length co5, .int .i64 0]) ?_ 1 _ rfl; (with_reducible repeat (first | refine blk_drewN ?_ _ | refine blk_drew ?_ | refine blk_alloc ?_ _)); refine blk_put (cs := #[.slice none 0 0, .int .i64 0]) ?_ 0 _ rfl; (with_reducible repeat (first | refine blk_drewN ?_ _ | refine blk_drew ?_ | refine blk_alloc ?_ _)); exact BK291.out⟩, ⟨BU⟩⟩
  case round =>
    clear H'; (try clear hcz8_0); (try clear hcz8_1); (try clear hfz8_0); (try clear hfz8_1); obtain ⟨x4_1, x292000_1, u292000, rfl, HA, HK1, HO_292000, BK287, BK291, HB⟩ := hrel; cases gk with
    | zero => exact absurd HA.out (by simp [spec_l7Stay.l0])
    | succ k1 =>
      have H := HA.out; clear HA; simp only [spec_l7Stay.l0] at H
      by_cases c9 : x4_1 < a0
      · rw [if_pos c9] at H
        have c9b0 : decide (x4_1 < a0) = true := decide_eq_true c9; clear c9; obtain ⟨c10, H⟩ := ifN H; have c10b0 := eq_true c10; have c10b1 : decide (0 ≤ a0) = true := decide_eq_true c10; clear c10; obtain ⟨c11, H⟩ := ifN H; have c11b0 := eq_true c11; have c11b1 : decide ((a0 : Int).toNat ≤ 35184372088832) = true := decide_eq_true c11; clear c11; obtain ⟨y292, hy292⟩ : ∃ y_ : List Int, y_ = (List.replicate (a0 : Int).toNat 0) := ⟨_, rfl⟩; replace H : (if 0 ≤ x4_1 then (if x4_1 < (y292.length : Int) then (if x292000_1.length < 5864062014805 then (spec_l7Stay.l0 k1 a0 (wrap64 (x4_1 + 1)) (x292000_1 ++ [(y292.set (x4_1 : Int).toNat 1)]) 1) else (none)) else (none)) else (none)) = some (r1, r2) := rH hy292 H; have Ny292 := Aside0.mk hy292; clear hy292; obtain ⟨c12, H⟩ := ifN H; have c12b0 : decide (0 ≤ x4_1) = true := decide_eq_true c12; clear c12; obtain ⟨c13, H⟩ := ifN H; have c13b0 : decide (x4_1 < (y292.length : Int)) = true := decide_eq_true c13; clear c13; obtain ⟨y295, hy295⟩ : ∃ y_ : List Int, y_ = (y292.set (x4_1 : Int).toNat 1) := ⟨_, rfl⟩; replace H : (if x292000_1.length < 5864062014805 then (spec_l7Stay.l0 k1 a0 (wrap64 (x4_1 + 1)) (x292000_1 ++ [y295]) 1) else (none)) = some (r1, r2) := rH hy295 H; have Ny295 := Aside0.mk hy295; clear hy295; obtain ⟨c15, H⟩ := ifN H; have LMc15 := Aside0.mk c15; clear c15; obtain ⟨y296, hy296⟩ : ∃ y_ : List (List Int), y_ = (x292000_1 ++ [y295]) := ⟨_, rfl⟩; replace H : (spec_l7Stay.l0 k1 a0 (wrap64 (x4_1 + 1)) y296 1) = some (r1, r2) := rH hy296 H; have Ny296 := Aside0.mk hy296; clear hy296; have H' := Aside0.mk H; clear H
        go_wp2_with (first | ((with_reducible refine gate_dst (N := 14) rfl ?_); refine Kd.R_make (Kd.int .i64) _ 3 rfl (N := 14) rfl 23 _ _ rfl a0 rfl rfl Try.underlying23 (.int .i64 0) 8 info3 rfl (by decide) (by omega) 0 (ok := fun _ => True) (okp := fun _ => True) rfl (fun _ hk => hk) trivial (oD) (Nat.le_trans (Nat.mul_le_mul_right _ (oD : a0.toNat ≤ 35184372088832)) (by omega)) (Below.refl _ _) (Nat.le_refl _) ?_; intro v293 w16 ho17 hb hg_ hnew_; clear hg_ hnew_; (first | rw [← Ny292.out] at ho17 | (simp only [Int.reduceToNat] at ho17; rw [← Ny292.out] at ho17)); replace HO_292000 := Aside0.mk (Kd.S_elder' (U HO_292000.out) (Kd.R_base ho17) hb); have HO294 := Aside0.mk (Kd.R_lower ho17 (below_size BU)); replace BK287 := bB BK287 hb; replace BK291 := bB BK291 hb; replace HB := BS hb; clear hb ho17; have p14 : 0 ≤ (x4_1 : Int) := oD; have q14 : (x4_1 : Int) < ((y292.length : Int) : Int) := oD; obtain ⟨go14, co14, eo14, gb14, gl14, cl14, HG14⟩ := Kd.R_form HO294.out (by omega); (first | cases eo14 | (injection eo14 with ea_ en_ ec_; (first | subst ea_ | (injection ea_ with ea_; subst ea_)); subst ec_; clear en_)); have GB14 := Aside0.mk gb14; have GG14 := Aside0.mk HG14; clear gb14 gl14 HG14; obtain ⟨hx14_0, hf14_0⟩ := Kd.R_celln 0 HO294.out (x4_1 : Int) p14 q14; replace p14 := eq_true p14; replace q14 := eq_true q14; obtain ⟨hy18_, hz18_⟩ := Kd.R_celln 0 HO294.out (x4_1 : Int) (oD) (oD); have HP18 := Kd.R_putg HO294.out (x4_1 : Int) 1) | ((with_reducible refine gate_store (t := 3) (p := 17) rfl ?_); refine store_event (t := 3) (p := 17) (v := ?vo_w19) (w1 := (w16.setCell ⟨go14, (x4_1 : Int).toNat, none⟩ (.int .i64 1))) ?hg ?ho ?hn ?hr ?_; (case ho => rfl); (case hg => rfl); (case hn => rfl); (case hr => first | (go_simp; done) | (go_simp; rfl)); intro w19 hw; have hg : w16.grownBy w19 (some go14) := (by rw [hw]; exact HP18.2); have hp_ : Kd.R (Kd.int .i64) 3 w19 w.heap.size (fun _ => True) (.slice (some ⟨go14, 0, none⟩) y292.length co14) y295 := (by rw [hw, Ny295.out]; exact HP18.1); clear HP18; replace HO_292000 := Aside0.mk (Kd.S_after (v := (.slice (some ⟨go14, 0, none⟩) y292.length co14)) (v1 := (.slice (some ⟨go14, 0, none⟩) y292.length co14)) (ok := (fun _ => True)) (U HO_292000.out) hg (.inl rfl)); replace BK287 := bG BK287 hg (Kd.R_ne HO294.out BK287.out (by decide)); replace BK291 := bG BK291 hg (Kd.R_ne HO294.out BK291.out (by decide)); replace HO294 := Aside0.mk (hp_); replace HB := Aside0.mk ((by rw [hw]; exact below_set (HB.out) GB14.out : Below w.heap.size w w19)); clear hg hw hp_; have hnb20 := NB291_287.out; have hnc20 := NB287_291.out; obtain ⟨hcz21_0, hcz21_1, hfz21_0, hfz21_1⟩ := bcf BK291) | ((with_reducible refine gate_builtin (b := .append) (xs := #[.tmp 19, .tmp 21]) rfl ?_); at_builtin; refine Kd.S_append (Kd.slice 3 (Kd.int .i64)) (w0 := w) w.heap.size rfl (.tmp 19) (.tmp 21) 25 23 (.slice none 0 0) 24 rfl Try.underlying25 info23 rfl (by decide) (by omega) u292000 x292000_1 y295 [.slice (some ⟨go14, 0, none⟩) y292.length co14] (fun _ => True) (fun k_ => some k_ = (.slice (some ⟨go14, 0, none⟩) y292.length co14 : Value).ownBlock) rfl rfl ?aP (fun k_ hk_ => ((Kd.R_mono (ok' := fun k_ => ((fun _ => True)) k_ ∧ some k_ ≠ (u292000 : Value).ownBlock) (Kd.R_apart' (HO294.out) (Kd.S_typed HO_292000.out) (by decide)) (fun k_ hk => ⟨trivial, hk.2⟩))).1 k_ hk_.symm) ?aF ?aO ?aB ?aS ?aL ?_; (case aP => exact Kd.M_row (Kd.R_mono (Kd.R_tight rfl (Kd.R_mono (ok' := fun k_ => ((fun _ => True)) k_ ∧ some k_ ≠ (u292000 : Value).ownBlock) (Kd.R_apart' (HO294.out) (Kd.S_typed HO_292000.out) (by decide)) (fun k_ hk => ⟨trivial, hk.2⟩))) (fun _ h_ => h_))); (case aB => exact BU); (case aF => exact (fun _ _ => trivial)); (case aO => exact (Kd.SM HO_292000.out (fun k_ hk => ⟨trivial, fun e_ => hk.2 e_⟩))); (case aS => exact (below_size BU)); (case aL => have := LMc15.out; omega); intro v297 w22 ho hb hg hat; rw [← Ny296.out] at ho; have n0_ := bG BK287 hg (Kd.S_ne HO_292000.out BK287.out (by decide)); have n1_ := bG BK291 hg (Kd.S_ne HO_292000.out BK291.out (by decide)); have n2_ := Aside0.mk (hb); have n3_ := Aside0.mk (ho); clear BK287; clear BK291; try clear HB; clear HO_292000; clear HO294; have BK287 := n0_; have BK291 := n1_; have HB := n2_; have HO298 := n3_; clear n0_ n1_ n2_ n3_; clear ho hb hg hat; obtain ⟨Ao23, co23, eo23⟩ := Kd.S_slice HO298.out; subst eo23; obtain ⟨hcz24_0, hcz24_1, hfz24_0, hfz24_1⟩ := bcf BK291))
        go_roundg k1
        case measure => have := HK1.out; omega
        case rel => exact ⟨(wrap64 (x4_1 + 1)), (y296), (.slice Ao23 y296.length co23), sR, H', ⟨by have := HK1.out; omega⟩, ⟨Kd.SM (Kd.S_far (p := ⟨gb291, 0, none⟩) (Kd.S_types HO298.out BK291.out (by decide)) (fun _ hk => hk.2) (.slice Ao23 y296.length co23)) (fun _ hk => trivial)⟩, ⟨by (with_reducible repeat (first | refine blk_drewN ?_ _ | refine blk_drew ?_ | refine blk_alloc ?_ _)); refine blk_far ?_ NB287_291.out _; (with_reducible repeat (first | refine blk_drewN ?_ _ | refine blk_drew ?_ | refine blk_alloc ?_ _)); exact BK287.out⟩, ⟨by (with_reducible repeat (first | refine blk_drewN ?_ _ | refine blk_drew ?_ | refine blk_alloc ?_ _)); refine blk_put (cs := #[u292000, .int .i64 1]) ?_ 0 _ rfl; (with_reducible repeat (first | refine blk_drewN ?_ _ | refine blk_drew ?_ | refine blk_alloc ?_ _)); exact BK291.out⟩, ⟨BU⟩⟩
      rw [if_neg c9] at H; have c9b0 : decide (x4_1 < a0) = false := decide_eq_false c9; clear c9; simp only [Option.some.injEq, Prod.mk.injEq] at H; obtain ⟨rfl, rfl⟩ := H; have hnb25 := NB291_287.out; have hnc25 := NB287_291.out; obtain ⟨hcz26_0, hcz26_1, hfz26_0, hfz26_1⟩ := bcf BK291; obtain ⟨Ao27, co27, eo27⟩ := Kd.S_slice HO_292000.out; subst eo27; obtain ⟨hcz28_0, hcz28_1, hfz28_0, hfz28_1⟩ := bcf BK287
      go_wp2
      refine bodyPost_ret (results_cell_row rfl _ _ gb287 27 #[.slice Ao27 x292000_1.length co27, .int .i64 1] (0, 0) _ rfl (by (with_reducible repeat (first | refine blk_drewN ?_ _ | refine blk_drew ?_ | refine blk_alloc ?_ _)); refine blk_put (cs := #[.slice Ao27 x292000_1.length co27, .int .i64 0]) ?_ 1 _ rfl; (with_reducible repeat (first | refine blk_drewN ?_ _ | refine blk_drew ?_ | refine blk_alloc ?_ _)); refine blk_put (cs := #[.slice none 0 0, .int .i64 0]) ?_ 0 _ rfl; (with_reducible repeat (first | refine blk_drewN ?_ _ | refine blk_drew ?_ | refine blk_alloc ?_ _)); exact BK287.out) Try.underlying27 rfl (by kernel_rfl)) rfl ?_
      exact ⟨_, eR, Kd.SM (Kd.S_far (p := ⟨gb287, 1, none⟩) (Kd.S_far (p := ⟨gb287, 0, none⟩) (Kd.S_types HO_292000.out BK287.out (by decide)) (fun _ hk => hk.2) (.slice Ao27 x292000_1.length co27)) (fun _ hk => hk.2) (.int .i64 1)) (fun _ hk => trivial), BU⟩

/-! ### spec_MoveStay: function 15 -/
def spec_MoveStay.f (k : Nat) (l0 : List Int) : Option ((List (List Int)) × Int × Bool) := (spec_l7Form.f k l0).bind fun t300 => (if t300 = true then ((spec_l7Stay.f k (l0.length : Int)).bind fun bt301 => (some (bt301.1, bt301.2, true))) else (some (([] : List (List Int)), 0, false)))
theorem spec_MoveStay.mono : ∀ a0 k, LeO (spec_MoveStay.f k a0) (spec_MoveStay.f (k + 1) a0) := by
  intro a0 k
  unfold spec_MoveStay.f
  with_reducible repeat' first | exact spec_l7Form.mono _ _ | exact spec_l7Stay.mono _ _ | exact LeO.refl _ | exact LeO.none _ | refine LeO.ite ?_ ?_ | refine LeO.bind ?_ (fun _ => ?_)
set_option maxHeartbeats 8000000 in
set_option maxRecDepth 100000 in
theorem spec_MoveStay.calls (k : Nat) (A0 : Option Addr) (c0 : Nat) (l0 : List Int) (r1 : List (List Int)) (r2 : Int) (r3 : Bool) (w : World) (hr0 : Kd.C (Kd.int .i64) w A0 l0.length l0) (hc0 : l0.length ≤ c0) (h : spec_MoveStay.f k l0 = some (r1, r2, r3)) :
    Calls Try.prog 15 #[.slice A0 l0.length c0] w fun e w' => ∃ v0_ : Value, e = .returned (.tuple #[.agg #[v0_, .int .i64 r2], .bool r3]) ∧ Kd.S (Kd.slice 3 (Kd.int .i64)) 23 w' w.heap.size (fun _ => True) v0_ r1 ∧ Below w.heap.size w w' := by
  have hu27 := Try.underlying27; have HR0 := Aside0.mk hr0; have HC0 := Aside0.mk hc0; clear hr0 hc0; have HB := Aside0.mk (Below.refl w.heap.size w); unfold spec_MoveStay.f at h; have H := h; clear h; obtain ⟨t300, A2, H⟩ := bnd H
  by_cases c3 : t300 = true
  · subst c3
    replace H := ifT H; obtain ⟨⟨t301, t304⟩, A4, H⟩ := bnd H; replace H : (some (t301, t304, true)) = some (r1, r2, r3) := H; simp only [Option.some.injEq, Prod.mk.injEq] at H; obtain ⟨rfl, rfl, rfl⟩ := H; go_enter Try.func15, Try.ntmps15
    go_wp2_with (first | ((with_reducible refine gate_dst (N := 2) rfl ?_); refine boxE (N := 2) (cs := #[.slice none 0 0, .int .i64 0]) (t := 27) ?_; intro gb299 hg w5 hbox hb; have BK299 := Aside0.mk (hbox); have GW299 := GS w hg; have GE299 := GS w hg; replace HB := BS hb; clear hb hbox hg) | ((with_reducible refine gate_callee (f := 54) rfl ?_); refine goesK (some 5) Try.func54 #[.slice A0 l0.length c0] ?_; (with_reducible refine (spec_l7Form.calls k _ _ l0 true _ ?side1 ?side2 A2.out).mono ?_); (case side1 => exact U (Kd.C_below HR0.out HB.out)); (case side2 => exact HC0.out); rintro e w' ⟨rfl, ⟨nd, rfl⟩⟩; refine ⟨_, rfl, ?_⟩; (try (rw [drewN_self w5]; generalize hq_ : World.drewN w5 _ = w5; have n0_ : Aside0 (w5.heap[gb299]? = some (.cells #[.slice none 0 0, .int .i64 0] 27 (0, 0))) := ⟨by rw [← hq_]; exact (U BK299.out)⟩; have n1_ : Aside0 (Below w.heap.size w w5) := ⟨by rw [← hq_]; exact BU⟩; clear BK299 HB hq_; have BK299 := n0_; have HB := n1_; clear n0_ n1_))) | ((with_reducible refine gate_callee (f := 55) rfl ?_); refine goesK (some 10) Try.func55 #[.int .i64 (l0.length : Int)] ?_; (with_reducible refine (spec_l7Stay.calls k (l0.length : Int) t301 t304 _ A4.out).mono ?_); rintro e w6 ⟨v302, rfl, ho0, hb⟩; refine ⟨_, rfl, ?_⟩; have HO303 := Aside0.mk (Kd.S_lower ho0 (below_size BU)); replace BK299 := bB BK299 hb; replace HB := BS hb; (try clear hb); (try clear ho0); obtain ⟨Ao7, co7, eo7⟩ := Kd.S_slice HO303.out; subst eo7; obtain ⟨hcz8_0, hcz8_1, hfz8_0, hfz8_1⟩ := bcf BK299))
    refine bodyPost_ret (results_ct rfl _ _ gb299 27 #[.slice Ao7 t301.length co7, .int .i64 t304] (0, 0) _ rfl (by (with_reducible repeat (first | refine blk_drewN ?_ _ | refine blk_drew ?_ | refine blk_alloc ?_ _)); refine blk_put (cs := #[.slice Ao7 t301.length co7, .int .i64 0]) ?_ 1 _ rfl; (with_reducible repeat (first | refine blk_drewN ?_ _ | refine blk_drew ?_ | refine blk_alloc ?_ _)); refine blk_put (cs := #[.slice none 0 0, .int .i64 0]) ?_ 0 _ rfl; (with_reducible repeat (first | refine blk_drewN ?_ _ | refine blk_drew ?_ | refine blk_alloc ?_ _)); exact BK299.out) Try.underlying27 rfl (by kernel_rfl)) rfl ?_
    exact ⟨_, eR, Kd.SM (Kd.S_far (p := ⟨gb299, 1, none⟩) (Kd.S_far (p := ⟨gb299, 0, none⟩) (Kd.S_types HO303.out BK299.out (by decide)) (fun _ hk => hk.2) (.slice Ao7 t301.length co7)) (fun _ hk => hk.2) (.int .i64 t304)) (fun _ hk => trivial), BU⟩
  replace c3 := Bool.eq_false_iff.mpr c3; subst c3; replace H := ifF H; simp only [Option.some.injEq, Prod.mk.injEq] at H; obtain ⟨rfl, rfl, rfl⟩ := H; go_enter Try.func15, Try.ntmps15
  go_wp2_with (first | ((with_reducible refine gate_dst (N := 2) rfl ?_); refine boxE (N := 2) (cs := #[.slice none 0 0, .int .i64 0]) (t := 27) ?_; intro gb299 hg w9 hbox hb; have BK299 := Aside0.mk (hbox); have GW299 := GS w hg; have GE299 := GS w hg; replace HB := BS hb; clear hb hbox hg) | ((with_reducible refine gate_callee (f := 54) rfl ?_); refine goesK (some 5) Try.func54 #[.slice A0 l0.length c0] ?_; (with_reducible refine (spec_l7Form.calls k _ _ l0 false _ ?side1 ?side2 A2.out).mono ?_); (case side1 => exact U (Kd.C_below HR0.out HB.out)); (case side2 => exact HC0.out); rintro e w' ⟨rfl, ⟨nd, rfl⟩⟩; refine ⟨_, rfl, ?_⟩; (try (rw [drewN_self w9]; generalize hq_ : World.drewN w9 _ = w9; have n0_ : Aside0 (w9.heap[gb299]? = some (.cells #[.slice none 0 0, .int .i64 0] 27 (0, 0))) := ⟨by rw [← hq_]; exact (U BK299.out)⟩; have n1_ : Aside0 (Below w.heap.size w w9) := ⟨by rw [← hq_]; exact BU⟩; clear BK299 HB hq_; have BK299 := n0_; have HB := n1_; clear n0_ n1_)); obtain ⟨hcz10_0, hcz10_1, hfz10_0, hfz10_1⟩ := bcf BK299))
  refine bodyPost_ret (results_ct rfl _ _ gb299 27 #[.slice none 0 0, .int .i64 0] (0, 0) _ rfl (by (with_reducible repeat (first | refine blk_drewN ?_ _ | refine blk_drew ?_ | refine blk_alloc ?_ _)); refine blk_put (cs := #[.slice none 0 0, .int .i64 0]) ?_ 1 _ rfl; (with_reducible repeat (first | refine blk_drewN ?_ _ | refine blk_drew ?_ | refine blk_alloc ?_ _)); refine blk_put (cs := #[.slice none 0 0, .int .i64 0]) ?_ 0 _ rfl; (with_reducible repeat (first | refine blk_drewN ?_ _ | refine blk_drew ?_ | refine blk_alloc ?_ _)); exact BK299.out) Try.underlying27 rfl (by kernel_rfl)) rfl ?_
  exact ⟨_, eR, by first | exact Kd.S_nil _ _ _ _ _ | exact Kd.N_nil _ _ _ _ _ | exact Kd.V_nil _ _ _ _ _ | exact Kd.Q_nil _ _ _ _ _ | exact Kd.R_nil _ _ _ _ _, BU⟩

/-! ### spec_l1Size: function 80 -/
def spec_l1Size.f (a0 : Int) : Option (Int) := some (mx a0 (wrap64 (-a0)))
set_option maxHeartbeats 8000000 in
set_option maxRecDepth 100000 in
theorem spec_l1Size.calls (a0 : Int) (r : Int) (w : World) (h : spec_l1Size.f a0 = some r) :
    Calls Try.prog 80 #[.int .i64 a0] w fun e w' => e = .returned (.int .i64 r) ∧ Below w.heap.size w w' := by
  have HB := Aside0.mk (Below.refl w.heap.size w); unfold spec_l1Size.f at h; have H := h; clear h; obtain ⟨ji2, hji2⟩ : ∃ j_ : Int, (mx a0 (wrap64 (-a0))) = j_ := ⟨_, rfl⟩
  replace H : (some ji2) = some r := by first | (rw [hji2] at H; exact H) | (simp only [hji2] at H ⊢; exact H)
  have hji2_ : (if a0 < (wrap64 (-a0)) then (wrap64 (-a0)) else a0) = ji2 := hji2; obtain rfl := Option.some.inj H; go_enter Try.func80, Try.ntmps80
  go_wp2
  go_ret
  exact ⟨by first | rfl | (simp [errW_none, errW_some] <;> rfl) | (simp only [← hji2]; first | rfl | (simp [errW_none, errW_some] <;> rfl)) | (simp [*, errW_none, errW_some] <;> rfl), BU⟩

/-! ### spec_l1Gcd: function 87 -/
def spec_l1Gcd.l0 : Nat → Int → Int → Option (Int)
  | 0, _, _ => none
  | k + 1, x0, x1 => if x1 = 0 then (some x0) else (spec_l1Gcd.l0 k x1 (Int.tmod x0 x1))
def spec_l1Gcd.f (k : Nat) (a0 : Int) (a1 : Int) : Option (Int) := (spec_l1Size.f a0).bind fun t305 => ((spec_l1Size.f a1).bind fun t306 => (spec_l1Gcd.l0 k t305 t306))
theorem spec_l1Gcd.mono_l : ∀ k, (∀ y0 y1, LeO (spec_l1Gcd.l0 k y0 y1) (spec_l1Gcd.l0 (k + 1) y0 y1))
  | 0 => fun _ _ r h => by simp [spec_l1Gcd.l0] at h
  | k + 1 => by
    have ih0 := spec_l1Gcd.mono_l k
    · intro y0 y1
      unfold spec_l1Gcd.l0
      with_reducible repeat' first | exact ih0 _ _ | exact LeO.refl _ | exact LeO.none _ | refine LeO.ite ?_ ?_ | refine LeO.bind ?_ (fun _ => ?_)
theorem spec_l1Gcd.mono : ∀ a0 a1 k, LeO (spec_l1Gcd.f k a0 a1) (spec_l1Gcd.f (k + 1) a0 a1) := by
  intro a0 a1 k
  have ih0 := spec_l1Gcd.mono_l k
  unfold spec_l1Gcd.f
  with_reducible repeat' first | exact ih0 _ _ | exact LeO.refl _ | exact LeO.none _ | refine LeO.ite ?_ ?_ | refine LeO.bind ?_ (fun _ => ?_)
set_option maxHeartbeats 8000000 in
set_option maxRecDepth 100000 in
theorem spec_l1Gcd.calls (k : Nat) (a0 : Int) (a1 : Int) (r : Int) (w : World) (h : spec_l1Gcd.f k a0 a1 = some r) :
    Calls Try.prog 87 #[.int .i64 a0, .int .i64 a1] w fun e w' => e = .returned (.int .i64 r) ∧ Below w.heap.size w w' := by
  have HB := Aside0.mk (Below.refl w.heap.size w); unfold spec_l1Gcd.f at h; have H := h; clear h; obtain ⟨t305, A3, H⟩ := bnd H; obtain ⟨t306, A4, H⟩ := bnd H; have H' := Aside0.mk H; clear H; go_enter Try.func87, Try.ntmps87
  go_wp2_with (first | ((with_reducible refine gate_callee (f := 80) rfl ?_); refine goesK (some 7) Try.func80 #[.int .i64 a0] ?_; (with_reducible refine (spec_l1Size.calls a0 t305 _ A3.out).mono ?_); rintro e w5 ⟨rfl, hb⟩; refine ⟨_, rfl, ?_⟩; replace HB := BS hb; (try clear hb)) | ((with_reducible refine gate_callee (f := 80) rfl ?_); refine goesK (some 9) Try.func80 #[.int .i64 a1] ?_; (with_reducible refine (spec_l1Size.calls a1 t306 _ A4.out).mono ?_); rintro e w6 ⟨rfl, hb⟩; refine ⟨_, rfl, ?_⟩; replace HB := BS hb; (try clear hb)))
  go_loopg [0, 1] k (fun kq v0 v1 w' => ∃ (x0_1 : Int) (x1_1 : Int), v0 = .int .i64 x0_1 ∧ v1 = .int .i64 x1_1 ∧ Aside0 (spec_l1Gcd.l0 kq x0_1 x1_1 = some r) ∧ Aside0 (kq ≤ k) ∧ Aside0 (Below w.heap.size w w'))
  case atStart => exact ⟨(t305), (t306), sR, sR, H', ⟨Nat.le_refl _⟩, ⟨BU⟩⟩
  case round =>
    clear H'; obtain ⟨x0_1, x1_1, rfl, rfl, HA, HK1, HB⟩ := hrel; cases gk with
    | zero => exact absurd HA.out (by simp [spec_l1Gcd.l0])
    | succ k1 =>
      have H := HA.out; clear HA; simp only [spec_l1Gcd.l0] at H
      by_cases c7 : x1_1 = 0
      · rw [if_pos c7] at H
        have c7b0 : (x1_1 == 0) = true := beq_iff_eq.mpr c7; have c7b1 : (x1_1 != 0) = false := bne_eq_false_iff_eq.mpr c7; clear c7; obtain rfl := Option.some.inj H
        go_wp2
        go_ret
        exact ⟨eR, BU⟩
      rw [if_neg c7] at H; have c7b0 : (x1_1 == 0) = false := beq_eq_false_iff_ne.mpr c7; have c7b1 : (x1_1 != 0) = true := bne_iff_ne.mpr c7; have H' := Aside0.mk H; clear H
      go_wp2
      go_roundg k1
      case measure => have := HK1.out; omega
      case rel => exact ⟨(x1_1), (Int.tmod x0_1 x1_1), sR, sR, H', ⟨by have := HK1.out; omega⟩, ⟨BU⟩⟩

/-! ### spec_l7Shape: function 82 -/
mutual
def spec_l7Shape.j0 : Nat → List Int → Bool → List (List Int) → Int → Option (Bool)
  | 0, _, _, _, _ => none
  | k + 1, x0, x24, x308000, x308001 => if x24 = true then (some false) else (spec_l7Shape.l0 k x0 x308001 0 x308000 x308001)
def spec_l7Shape.l0 : Nat → List Int → Int → Int → List (List Int) → Int → Option (Bool)
  | 0, _, _, _, _, _ => none
  | k + 1, x0, x5, x6, x308000, x308001 => if x6 < (x308000.length : Int) then (if 0 ≤ x6 then (if ((rd_L1 x308000 x6).length : Int) = (x0.length : Int) then (spec_l7Shape.l1 k x0 x5 x6 0 x308000 x308001) else (some false)) else (none)) else (some (x5 == 1))
def spec_l7Shape.l1 : Nat → List Int → Int → Int → Int → List (List Int) → Int → Option (Bool)
  | 0, _, _, _, _, _, _ => none
  | k + 1, x0, x5, x6, x7, x308000, x308001 => if x7 < (x0.length : Int) then (if 0 ≤ x6 then (if x6 < (x308000.length : Int) then (if 0 ≤ x7 then (if x7 < ((rd_L1 x308000 x6).length : Int) then ((spec_l6In.f (rd (rd_L1 x308000 x6) x7) (-1000000) 1000000).bind fun t313 => (if t313 = true then ((spec_l1Gcd.f k x5 (rd (rd_L1 x308000 x6) x7)).bind fun t316 => (spec_l7Shape.l1 k x0 t316 x6 (wrap64 (x7 + 1)) x308000 x308001)) else (some false))) else (none)) else (none)) else (none)) else (none)) else (spec_l7Shape.l0 k x0 x5 (wrap64 (x6 + 1)) x308000 x308001)
end
def spec_l7Shape.f (k : Nat) (l0 : List Int) (l1_0 : List (List Int)) (a1_1 : Int) : Option (Bool) := (spec_l7Form.f k l0).bind fun t308 => (if t308 = true then (if (l1_0.length : Int) = (l0.length : Int) then ((spec_l6In.f a1_1 1 10000).bind fun t309 => (spec_l7Shape.j0 k l0 (!t309) l1_0 a1_1)) else (spec_l7Shape.j0 k l0 true l1_0 a1_1)) else (spec_l7Shape.j0 k l0 true l1_0 a1_1))
theorem spec_l7Shape.mono_l : ∀ k, (∀ y0 y1 y2 y3, LeO (spec_l7Shape.j0 k y0 y1 y2 y3) (spec_l7Shape.j0 (k + 1) y0 y1 y2 y3)) ∧ (∀ y0 y1 y2 y3 y4, LeO (spec_l7Shape.l0 k y0 y1 y2 y3 y4) (spec_l7Shape.l0 (k + 1) y0 y1 y2 y3 y4)) ∧ (∀ y0 y1 y2 y3 y4 y5, LeO (spec_l7Shape.l1 k y0 y1 y2 y3 y4 y5) (spec_l7Shape.l1 (k + 1) y0 y1 y2 y3 y4 y5))
  | 0 => ⟨fun _ _ _ _ r h => by simp [spec_l7Shape.j0] at h, fun _ _ _ _ _ r h => by simp [spec_l7Shape.l0] at h, fun _ _ _ _ _ _ r h => by simp [spec_l7Shape.l1] at h⟩
  | k + 1 => by
    obtain ⟨ih0, ih1, ih2⟩ := spec_l7Shape.mono_l k
    refine ⟨?_, ?_, ?_⟩ <;> intros <;> (first | unfold spec_l7Shape.j0 | unfold spec_l7Shape.l0 | unfold spec_l7Shape.l1) <;> (with_reducible repeat' first | exact ih0 _ _ _ _ | exact ih1 _ _ _ _ _ | exact ih2 _ _ _ _ _ _ | exact spec_l1Gcd.mono _ _ _ | exact spec_l7Form.mono _ _ | exact LeO.refl _ | exact LeO.none _ | refine LeO.ite ?_ ?_ | refine LeO.bind ?_ (fun _ => ?_))
theorem spec_l7Shape.mono : ∀ a0 a1 a2 k, LeO (spec_l7Shape.f k a0 a1 a2) (spec_l7Shape.f (k + 1) a0 a1 a2) := by
  intro a0 a1 a2 k
  obtain ⟨ih0, ih1, ih2⟩ := spec_l7Shape.mono_l k
  unfold spec_l7Shape.f
  with_reducible repeat' first | exact ih0 _ _ _ _ | exact ih1 _ _ _ _ _ | exact ih2 _ _ _ _ _ _ | exact spec_l1Gcd.mono _ _ _ | exact spec_l7Form.mono _ _ | exact LeO.refl _ | exact LeO.none _ | refine LeO.ite ?_ ?_ | refine LeO.bind ?_ (fun _ => ?_)
set_option maxHeartbeats 8000000 in
set_option maxRecDepth 100000 in
theorem spec_l7Shape.calls (k : Nat) (A0 : Option Addr) (c0 : Nat) (l0 : List Int) (A1_0 : Option Addr) (c1_0 : Nat) (l1_0 : List (List Int)) (a1_1 : Int) (r : Bool) (w : World) (hr0 : Kd.C (Kd.int .i64) w A0 l0.length l0) (hc0 : l0.length ≤ c0) (hr1_0 : Kd.C (Kd.slice 3 (Kd.int .i64)) w A1_0 l1_0.length l1_0) (hc1_0 : l1_0.length ≤ c1_0) (h : spec_l7Shape.f k l0 l1_0 a1_1 = some r) :
    Calls Try.prog 82 #[.slice A0 l0.length c0, .agg #[.slice A1_0 l1_0.length c1_0, .int .i64 a1_1]] w fun e w' => e = .returned (.bool r) ∧ Below w.heap.size w w' := by
  have hu27 := Try.underlying27; have HR0 := Aside0.mk hr0; have HC0 := Aside0.mk hc0; clear hr0 hc0; have HR1_0 := Aside0.mk hr1_0; have HC1_0 := Aside0.mk hc1_0; clear hr1_0 hc1_0; have HB := Aside0.mk (Below.refl w.heap.size w); unfold spec_l7Shape.f at h; have H := h; clear h; have HC3 := Aside0.mk H; clear H; go_enter Try.func82, Try.ntmps82
  go_upto_region 1 with (first | ((with_reducible refine gate_dst (N := 3) rfl ?_); (try (refine gate_guard (by rfl) ?_; dsimp only)); refine boxE (N := 3) (cs := #[.slice A1_0 l1_0.length c1_0, .int .i64 a1_1]) (t := 27) ?_; intro gb307 hg w4 hbox hb; have BK307 := Aside0.mk (hbox); have GW307 := GS w hg; have GE307 := GS w hg; replace HB := BS hb; clear hb hbox hg))
  (try simp only [Act.put, List.setIfInBounds_toArray, List.set_cons_zero, List.set_cons_succ])
  go_cut [24] (fun v24 wc => ∃ (kq : Nat) (x24_2 : Bool), v24 = .bool x24_2 ∧ Aside0 (spec_l7Shape.j0 kq l0 x24_2 l1_0 a1_1 = some r) ∧ Aside0 (kq ≤ k) ∧ Aside0 (wc.heap[gb307]? = some (.cells #[(.slice A1_0 l1_0.length c1_0), .int .i64 a1_1] 27 (0, 0))) ∧ Aside0 (Below w.heap.size w wc))
  case first =>
    have H := HC3.out; clear HC3; obtain ⟨t308, A5, H⟩ := bnd H
    by_cases c6 : t308 = true
    · subst c6
      replace H := ifT H
      by_cases c7 : (l1_0.length : Int) = (l0.length : Int)
      · rw [if_pos c7] at H
        have c7b0 : ((l1_0.length : Int) == (l0.length : Int)) = true := beq_iff_eq.mpr c7; have c7b1 : ((l1_0.length : Int) != (l0.length : Int)) = false := bne_eq_false_iff_eq.mpr c7
        have c7b2 : (l1_0.length == l0.length) = true := by first | simpa using c7 | (simp at c7 ⊢; omega)
        clear c7
        (first | rw [c7b0] | (simp only [i64_w, i32_w]; rw [c7b0]) | skip)
        obtain ⟨t309, A8, H⟩ := bnd H; have H' := Aside0.mk H; clear H
        go_wp2_with (first | ((with_reducible refine gate_callee (f := 54) rfl ?_); refine goesK (some 9) Try.func54 #[.slice A0 l0.length c0] ?_; (with_reducible refine (spec_l7Form.calls k _ _ l0 true _ ?side1 ?side2 A5.out).mono ?_); (case side1 => exact U (Kd.C_below HR0.out HB.out)); (case side2 => exact HC0.out); rintro e w' ⟨rfl, ⟨nd, rfl⟩⟩; refine ⟨_, rfl, ?_⟩; obtain ⟨hcz9_0, hcz9_1, hfz9_0, hfz9_1⟩ := bcf BK307) | (go_at_call 86; (with_reducible refine (spec_l6In.calls a1_1 1 10000 t309 _ A8.out).mono ?_); rintro e w' ⟨rfl, ⟨nd, rfl⟩⟩))
        go_meet
        case rel => exact ⟨_, (!t309), sR, H', ⟨oR⟩, ⟨U BK307.out⟩, ⟨BU⟩⟩
      rw [if_neg c7] at H; have c7b0 : ((l1_0.length : Int) == (l0.length : Int)) = false := beq_eq_false_iff_ne.mpr c7; have c7b1 : ((l1_0.length : Int) != (l0.length : Int)) = true := bne_iff_ne.mpr c7
      have c7b2 : (l1_0.length == l0.length) = false := by first | simpa using c7 | (simp at c7 ⊢; omega)
      (first | rw [c7b0] | (simp only [i64_w, i32_w]; rw [c7b0]) | skip)
      have H' := Aside0.mk H; clear H
      go_wp2_with (first | ((with_reducible refine gate_callee (f := 54) rfl ?_); refine goesK (some 9) Try.func54 #[.slice A0 l0.length c0] ?_; (with_reducible refine (spec_l7Form.calls k _ _ l0 true _ ?side1 ?side2 A5.out).mono ?_); (case side1 => exact U (Kd.C_below HR0.out HB.out)); (case side2 => exact HC0.out); rintro e w' ⟨rfl, ⟨nd, rfl⟩⟩; refine ⟨_, rfl, ?_⟩; obtain ⟨hcz10_0, hcz10_1, hfz10_0, hfz10_1⟩ := bcf BK307))
      go_meet
      case rel => exact ⟨_, (true), sR, H', ⟨oR⟩, ⟨U BK307.out⟩, ⟨BU⟩⟩
    replace c6 := Bool.eq_false_iff.mpr c6; subst c6; replace H := ifF H; have H' := Aside0.mk H; clear H
    go_wp2_with (first | ((with_reducible refine gate_callee (f := 54) rfl ?_); refine goesK (some 9) Try.func54 #[.slice A0 l0.length c0] ?_; (with_reducible refine (spec_l7Form.calls k _ _ l0 false _ ?side1 ?side2 A5.out).mono ?_); (case side1 => exact U (Kd.C_below HR0.out HB.out)); (case side2 => exact HC0.out); rintro e w' ⟨rfl, ⟨nd, rfl⟩⟩; refine ⟨_, rfl, ?_⟩))
    go_meet
    case rel => exact ⟨_, (true), sR, H', ⟨oR⟩, ⟨U BK307.out⟩, ⟨BU⟩⟩
  case rest =>
    clear HC3; obtain ⟨kq, x24_2, rfl, HA, HJ2, BK307, HB⟩ := hcut; cases kq with
    | zero => exact absurd HA.out (by simp [spec_l7Shape.j0])
    | succ kj2 =>
      have H := HA.out; clear HA; simp only [spec_l7Shape.j0] at H
      by_cases c11 : x24_2 = true
      · subst c11
        replace H := ifT H; obtain rfl := Option.some.inj H
        go_wp2
        go_ret
        exact ⟨eR, BU⟩
      replace c11 := Bool.eq_false_iff.mpr c11; subst c11; replace H := ifF H; have H' := Aside0.mk H; clear H; obtain ⟨hcz12_0, hcz12_1, hfz12_0, hfz12_1⟩ := bcf BK307
      go_wp2
      go_loopg [5, 6] kj2 (fun kq v5 v6 w' => ∃ (x5_2 : Int) (x6_2 : Int), v5 = .int .i64 x5_2 ∧ v6 = .int .i64 x6_2 ∧ Aside0 (spec_l7Shape.l0 kq l0 x5_2 x6_2 l1_0 a1_1 = some r) ∧ Aside0 (kq ≤ kj2) ∧ Aside0 (w'.heap[gb307]? = some (.cells #[(.slice A1_0 l1_0.length c1_0), .int .i64 a1_1] 27 (0, 0))) ∧ Aside0 (Below w.heap.size w w'))
      case atStart => exact ⟨(a1_1), (0), sR, sR, H', ⟨Nat.le_refl _⟩, ⟨U BK307.out⟩, ⟨BU⟩⟩
      case round =>
        clear H'; (try clear c11); (try clear hcz12_0); (try clear hcz12_1); (try clear hfz12_0); (try clear hfz12_1); obtain ⟨x5_2, x6_2, rfl, rfl, HA, HK2, BK307, HB⟩ := hrel; cases gk with
        | zero => exact absurd HA.out (by simp [spec_l7Shape.l0])
        | succ k2 =>
          have H := HA.out; clear HA; simp only [spec_l7Shape.l0] at H
          by_cases c13 : x6_2 < (l1_0.length : Int)
          · rw [if_pos c13] at H
            have c13b0 : decide (x6_2 < (l1_0.length : Int)) = true := decide_eq_true c13; clear c13; obtain ⟨c14, H⟩ := ifN H; have c14b0 : decide (0 ≤ x6_2) = true := decide_eq_true c14; clear c14
            by_cases c15 : ((rd_L1 l1_0 x6_2).length : Int) = (l0.length : Int)
            · rw [if_pos c15] at H
              have c15b0 : (((rd_L1 l1_0 x6_2).length : Int) == (l0.length : Int)) = true := beq_iff_eq.mpr c15; have c15b1 : (((rd_L1 l1_0 x6_2).length : Int) != (l0.length : Int)) = false := bne_eq_false_iff_eq.mpr c15
              have c15b2 : ((rd_L1 l1_0 x6_2).length == l0.length) = true := by first | simpa using c15 | (simp at c15 ⊢; omega)
              clear c15; have H' := Aside0.mk H; clear H; obtain ⟨hcz16_0, hcz16_1, hfz16_0, hfz16_1⟩ := bcf BK307; have p310 : 0 ≤ (x6_2 : Int) := oD; have q310 : x6_2 < (l1_0.length : Int) := oD; obtain ⟨ad310, A310_0, c310_0, e310, hx310_0, hl310_0, hi310_0⟩ := at_L1 HR1_0.out x6_2 p310 q310; cases e310; replace hx310_0 := (HB.out.cell (World.block_lt_of_cell? w _ hx310_0)).trans hx310_0; have HR310_0 := Aside0.mk hi310_0; have HC310_0 := Aside0.mk hl310_0; clear hi310_0 hl310_0; replace p310 := eq_true p310; replace q310 := eq_true q310
              go_wp2
              go_loopg [5, 7] k2 (fun kq v5 v7 w' => ∃ (x5_3 : Int) (x7_3 : Int), v5 = .int .i64 x5_3 ∧ v7 = .int .i64 x7_3 ∧ Aside0 (spec_l7Shape.l1 kq l0 x5_3 x6_2 x7_3 l1_0 a1_1 = some r) ∧ Aside0 (kq ≤ k2) ∧ Aside0 (w'.heap[gb307]? = some (.cells #[(.slice (some ad310) l1_0.length c1_0), .int .i64 a1_1] 27 (0, 0))) ∧ Aside0 (Below w.heap.size w w'))
              case atStart => exact ⟨(x5_2), (0), sR, sR, H', ⟨Nat.le_refl _⟩, ⟨U BK307.out⟩, ⟨BU⟩⟩
              case round =>
                clear H'; (try clear c11); (try clear c13); (try clear c13b0); (try clear c14); (try clear c14b0); (try clear c15); (try clear c15b0); (try clear c15b1); (try clear c15b2); (try clear hcz12_0); (try clear hcz12_1); (try clear hcz16_0); (try clear hcz16_1); (try clear hfz12_0); (try clear hfz12_1); (try clear hfz16_0); (try clear hfz16_1); (try clear hx310_0); (try clear p310); (try clear q310); obtain ⟨x5_3, x7_3, rfl, rfl, HA, HK3, BK307, HB⟩ := hrel; cases gk with
                | zero => exact absurd HA.out (by simp [spec_l7Shape.l1])
                | succ k3 =>
                  have H := HA.out; clear HA; simp only [spec_l7Shape.l1] at H
                  by_cases c17 : x7_3 < (l0.length : Int)
                  · rw [if_pos c17] at H
                    have c17b0 : decide (x7_3 < (l0.length : Int)) = true := decide_eq_true c17; clear c17; obtain ⟨c18, H⟩ := ifN H; have c18b0 : decide (0 ≤ x6_2) = true := decide_eq_true c18; clear c18; obtain ⟨c19, H⟩ := ifN H; have c19b0 : decide (x6_2 < (l1_0.length : Int)) = true := decide_eq_true c19; clear c19; obtain ⟨c20, H⟩ := ifN H; have c20b0 : decide (0 ≤ x7_3) = true := decide_eq_true c20; clear c20; obtain ⟨c21, H⟩ := ifN H; have c21b0 : decide (x7_3 < ((rd_L1 l1_0 x6_2).length : Int)) = true := decide_eq_true c21; clear c21; obtain ⟨t313, A22, H⟩ := bnd H
                    by_cases c23 : t313 = true
                    · subst c23
                      replace H := ifT H; obtain ⟨t316, A24, H⟩ := bnd H; have H' := Aside0.mk H; clear H; obtain ⟨hcz25_0, hcz25_1, hfz25_0, hfz25_1⟩ := bcf BK307; have p311 : 0 ≤ (x6_2 : Int) := oD; have q311 : x6_2 < (l1_0.length : Int) := oD; obtain ⟨ad311, A311_0, c311_0, e311, hx311_0, hl311_0, hi311_0⟩ := at_L1 HR1_0.out x6_2 p311 q311; obtain rfl : ad310 = ad311 := (by injection e311); replace hx311_0 := (HB.out.cell (World.block_lt_of_cell? w _ hx311_0)).trans hx311_0; have HR311_0 := Aside0.mk hi311_0; have HC311_0 := Aside0.mk hl311_0; clear hi311_0 hl311_0; replace p311 := eq_true p311; replace q311 := eq_true q311; have p312 : 0 ≤ (x7_3 : Int) := oD; have q312 : x7_3 < ((rd_L1 l1_0 x6_2).length : Int) := oD; obtain ⟨ad312, e312, hx312_0⟩ := Kd.at_int HR311_0.out x7_3 p312 q312; cases e312; replace hx312_0 := (HB.out.cell (World.block_lt_of_cell? w _ hx312_0)).trans hx312_0; replace p312 := eq_true p312; replace q312 := eq_true q312
                      go_wp2_with (first | ((with_reducible refine gate_callee (f := 86) rfl ?_); refine goesK (some 57) Try.func86 #[.int .i64 (rd (rd_L1 l1_0 x6_2) x7_3), .int .i64 (-1000000), .int .i64 1000000] ?_; (with_reducible refine (spec_l6In.calls (rd (rd_L1 l1_0 x6_2) x7_3) (-1000000) 1000000 true _ A22.out).mono ?_); rintro e w' ⟨rfl, ⟨nd, rfl⟩⟩; refine ⟨_, rfl, ?_⟩; have p314 : 0 ≤ (x6_2 : Int) := oD; have q314 : x6_2 < (l1_0.length : Int) := oD; obtain ⟨ad314, A314_0, c314_0, e314, hx314_0, hl314_0, hi314_0⟩ := at_L1 HR1_0.out x6_2 p314 q314; obtain rfl : ad310 = ad314 := (by injection e314); replace hx314_0 := (HB.out.cell (World.block_lt_of_cell? w _ hx314_0)).trans hx314_0; have HR314_0 := Aside0.mk hi314_0; have HC314_0 := Aside0.mk hl314_0; clear hi314_0 hl314_0; replace p314 := eq_true p314; replace q314 := eq_true q314; have ea_ := Option.some.inj (hx311_0.symm.trans hx314_0); injection ea_ with ea_ en_ ec_; subst ea_; subst ec_; clear en_; have p315 : 0 ≤ (x7_3 : Int) := oD; have q315 : x7_3 < ((rd_L1 l1_0 x6_2).length : Int) := oD; obtain ⟨ad315, e315, hx315_0⟩ := Kd.at_int HR314_0.out x7_3 p315 q315; cases e315; replace hx315_0 := (HB.out.cell (World.block_lt_of_cell? w _ hx315_0)).trans hx315_0; replace p315 := eq_true p315; replace q315 := eq_true q315) | ((with_reducible refine gate_callee (f := 87) rfl ?_); refine goesK (some 68) Try.func87 #[.int .i64 x5_3, .int .i64 (rd (rd_L1 l1_0 x6_2) x7_3)] ?_; (with_reducible refine (spec_l1Gcd.calls k3 x5_3 (rd (rd_L1 l1_0 x6_2) x7_3) t316 _ A24.out).mono ?_); rintro e w26 ⟨rfl, hb⟩; refine ⟨_, rfl, ?_⟩; replace BK307 := bB BK307 hb; replace HB := BS hb; (try clear hb)))
                      go_roundg k3
                      case measure => have := HJ2.out; have := HK2.out; have := HK3.out; omega
                      case rel => exact ⟨(t316), (wrap64 (x7_3 + 1)), sR, sR, H', ⟨by have := HJ2.out; have := HK2.out; have := HK3.out; omega⟩, ⟨U BK307.out⟩, ⟨BU⟩⟩
                    replace c23 := Bool.eq_false_iff.mpr c23; subst c23; replace H := ifF H; obtain rfl := Option.some.inj H; obtain ⟨hcz27_0, hcz27_1, hfz27_0, hfz27_1⟩ := bcf BK307; have p311 : 0 ≤ (x6_2 : Int) := oD; have q311 : x6_2 < (l1_0.length : Int) := oD; obtain ⟨ad311, A311_0, c311_0, e311, hx311_0, hl311_0, hi311_0⟩ := at_L1 HR1_0.out x6_2 p311 q311; obtain rfl : ad310 = ad311 := (by injection e311); replace hx311_0 := (HB.out.cell (World.block_lt_of_cell? w _ hx311_0)).trans hx311_0; have HR311_0 := Aside0.mk hi311_0; have HC311_0 := Aside0.mk hl311_0; clear hi311_0 hl311_0; replace p311 := eq_true p311; replace q311 := eq_true q311; have p312 : 0 ≤ (x7_3 : Int) := oD; have q312 : x7_3 < ((rd_L1 l1_0 x6_2).length : Int) := oD; obtain ⟨ad312, e312, hx312_0⟩ := Kd.at_int HR311_0.out x7_3 p312 q312; cases e312; replace hx312_0 := (HB.out.cell (World.block_lt_of_cell? w _ hx312_0)).trans hx312_0; replace p312 := eq_true p312; replace q312 := eq_true q312
                    go_wp2_with (first | ((with_reducible refine gate_callee (f := 86) rfl ?_); refine goesK (some 57) Try.func86 #[.int .i64 (rd (rd_L1 l1_0 x6_2) x7_3), .int .i64 (-1000000), .int .i64 1000000] ?_; (with_reducible refine (spec_l6In.calls (rd (rd_L1 l1_0 x6_2) x7_3) (-1000000) 1000000 false _ A22.out).mono ?_); rintro e w' ⟨rfl, ⟨nd, rfl⟩⟩; refine ⟨_, rfl, ?_⟩))
                    go_ret
                    exact ⟨eR, BU⟩
                  rw [if_neg c17] at H; have c17b0 : decide (x7_3 < (l0.length : Int)) = false := decide_eq_false c17; clear c17; have H' := Aside0.mk H; clear H
                  go_wp2
                  go_roundg k3
                  case measure => have := HJ2.out; have := HK2.out; have := HK3.out; omega
                  case rel => exact ⟨(x5_3), (wrap64 (x6_2 + 1)), sR, sR, H', ⟨by have := HJ2.out; have := HK2.out; have := HK3.out; omega⟩, ⟨U BK307.out⟩, ⟨BU⟩⟩
            rw [if_neg c15] at H; have c15b0 : (((rd_L1 l1_0 x6_2).length : Int) == (l0.length : Int)) = false := beq_eq_false_iff_ne.mpr c15; have c15b1 : (((rd_L1 l1_0 x6_2).length : Int) != (l0.length : Int)) = true := bne_iff_ne.mpr c15
            have c15b2 : ((rd_L1 l1_0 x6_2).length == l0.length) = false := by first | simpa using c15 | (simp at c15 ⊢; omega)
            obtain rfl := Option.some.inj H; obtain ⟨hcz28_0, hcz28_1, hfz28_0, hfz28_1⟩ := bcf BK307; have p310 : 0 ≤ (x6_2 : Int) := oD; have q310 : x6_2 < (l1_0.length : Int) := oD; obtain ⟨ad310, A310_0, c310_0, e310, hx310_0, hl310_0, hi310_0⟩ := at_L1 HR1_0.out x6_2 p310 q310; cases e310; replace hx310_0 := (HB.out.cell (World.block_lt_of_cell? w _ hx310_0)).trans hx310_0; have HR310_0 := Aside0.mk hi310_0; have HC310_0 := Aside0.mk hl310_0; clear hi310_0 hl310_0; replace p310 := eq_true p310; replace q310 := eq_true q310
            go_wp2
            go_ret
            exact ⟨eR, BU⟩
          rw [if_neg c13] at H; have c13b0 : decide (x6_2 < (l1_0.length : Int)) = false := decide_eq_false c13; clear c13; obtain rfl := Option.some.inj H; obtain ⟨hcz29_0, hcz29_1, hfz29_0, hfz29_1⟩ := bcf BK307
          go_wp2
          go_ret
          exact ⟨eR, BU⟩

end Go.Proofs.Ytnbeeogmaamgdaa.PFnSplitMove
