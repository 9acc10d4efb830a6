import Derived.Test.YtnbeeogmaamgdaaPFnSplitMovex0
import Derived.Test.YtnbeeogmaamgdaaPFnSplitMovex9
namespace Go.Proofs.Ytnbeeogmaamgdaa.PFnSplitMove
open Go.RowKit Go.Proofs.YtnbeeogmaamgdaaW.PrintWords Go.Proofs.YtnbeeogmaamgdaaW.PrintLast Go.Proofs.YtnbeeogmaamgdaaW.PrintMore
attribute [local go_sem] max2_int min2_int max_two min_two max_three min_three max_four min_four   -- for this text's walks alone
set_option linter.unusedVariables false
set_option linter.unusedSimpArgs false

/-! ### spec_l7Low: function 68 -/
mutual
def spec_l7Low.l0 : Nat → List (List Int) → Int → Int → Int → Option ((List (List Int)) × Int)
  | 0, _, _, _, _ => none
  | k + 1, x0, x1, x5, x6 => if x6 < (x0.length : Int) then (spec_l7Low.l1 k x0 x1 x5 x6 0) else (if x1 < 0 then (spec_l7Low.j2 k x0 x1 (wrap64 (-x5))) else (spec_l7Low.j2 k x0 x1 x5))
def spec_l7Low.l1 : Nat → List (List Int) → Int → Int → Int → Int → Option ((List (List Int)) × Int)
  | 0, _, _, _, _, _ => none
  | k + 1, x0, x1, x5, x6, x7 => if 0 ≤ x6 then (if x6 < (x0.length : Int) then (if x7 < ((rd_L1 x0 x6).length : Int) then (if 0 ≤ x7 then ((spec_l1Gcd.f k x5 (rd (rd_L1 x0 x6) x7)).bind fun t332 => (spec_l7Low.l1 k x0 x1 t332 x6 (wrap64 (x7 + 1)))) else (none)) else (spec_l7Low.l0 k x0 x1 x5 (wrap64 (x6 + 1)))) else (none)) else (none)
def spec_l7Low.j2 : Nat → List (List Int) → Int → Int → Option ((List (List Int)) × Int)
  | 0, _, _, _ => none
  | k + 1, x0, x1, x5 => if x5 = 0 then (none) else (spec_l7Low.l2 k x0 x5 0 (([] : List (List Int))) (wrap64 (Int.tdiv x1 x5)))
def spec_l7Low.l2 : Nat → List (List Int) → Int → Int → List (List Int) → Int → Option ((List (List Int)) × Int)
  | 0, _, _, _, _, _ => none
  | k + 1, x0, x5, x9, x337000, x337001 => if x9 < (x0.length : Int) then (spec_l7Low.l3 k x0 x5 x9 (([] : List Int)) 0 x337000 x337001) else (some (x337000, x337001))
def spec_l7Low.l3 : Nat → List (List Int) → Int → Int → List Int → Int → List (List Int) → Int → Option ((List (List Int)) × Int)
  | 0, _, _, _, _, _, _, _ => none
  | k + 1, x0, x5, x9, x10, x11, x337000, x337001 => if 0 ≤ x9 then (if x9 < (x0.length : Int) then (if x11 < ((rd_L1 x0 x9).length : Int) then (if 0 ≤ x11 then (if x5 = 0 then (none) else (if x10.length < 17592186044416 then (spec_l7Low.l3 k x0 x5 x9 (x10 ++ [wrap64 (Int.tdiv (rd (rd_L1 x0 x9) x11) x5)]) (wrap64 (x11 + 1)) x337000 x337001) else (none))) else (none)) else (if x337000.length < 5864062014805 then (spec_l7Low.l2 k x0 x5 (wrap64 (x9 + 1)) (x337000 ++ [x10]) x337001) else (none))) else (none)) else (none)
end
def spec_l7Low.f (k : Nat) (l0 : List (List Int)) (a1 : Int) : Option ((List (List Int)) × Int) := spec_l7Low.l0 k l0 a1 a1 0
theorem spec_l7Low.mono_l : ∀ k, (∀ y0 y1 y2 y3, LeO (spec_l7Low.l0 k y0 y1 y2 y3) (spec_l7Low.l0 (k + 1) y0 y1 y2 y3)) ∧ (∀ y0 y1 y2 y3 y4, LeO (spec_l7Low.l1 k y0 y1 y2 y3 y4) (spec_l7Low.l1 (k + 1) y0 y1 y2 y3 y4)) ∧ (∀ y0 y1 y2, LeO (spec_l7Low.j2 k y0 y1 y2) (spec_l7Low.j2 (k + 1) y0 y1 y2)) ∧ (∀ y0 y1 y2 y3 y4, LeO (spec_l7Low.l2 k y0 y1 y2 y3 y4) (spec_l7Low.l2 (k + 1) y0 y1 y2 y3 y4)) ∧ (∀ y0 y1 y2 y3 y4 y5 y6, LeO (spec_l7Low.l3 k y0 y1 y2 y3 y4 y5 y6) (spec_l7Low.l3 (k + 1) y0 y1 y2 y3 y4 y5 y6))
  | 0 => ⟨fun _ _ _ _ r h => by simp [spec_l7Low.l0] at h, fun _ _ _ _ _ r h => by simp [spec_l7Low.l1] at h, fun _ _ _ r h => by simp [spec_l7Low.j2] at h, fun _ _ _ _ _ r h => by simp [spec_l7Low.l2] at h, fun _ _ _ _ _ _ _ r h => by simp [spec_l7Low.l3] at h⟩
  | k + 1 => by
    obtain ⟨ih0, ih1, ih2, ih3, ih4⟩ := spec_l7Low.mono_l k
    refine ⟨?_, ?_, ?_, ?_, ?_⟩ <;> intros <;> (first | unfold spec_l7Low.l0 | unfold spec_l7Low.l1 | unfold spec_l7Low.j2 | unfold spec_l7Low.l2 | unfold spec_l7Low.l3) <;> (with_reducible repeat' first | exact ih0 _ _ _ _ | exact ih1 _ _ _ _ _ | exact ih2 _ _ _ | exact ih3 _ _ _ _ _ | exact ih4 _ _ _ _ _ _ _ | exact spec_l1Gcd.mono _ _ _ | exact LeO.refl _ | exact LeO.none _ | refine LeO.ite ?_ ?_ | refine LeO.bind ?_ (fun _ => ?_))
theorem spec_l7Low.mono : ∀ a0 a1 k, LeO (spec_l7Low.f k a0 a1) (spec_l7Low.f (k + 1) a0 a1) := by
  intro a0 a1 k
  obtain ⟨ih0, ih1, ih2, ih3, ih4⟩ := spec_l7Low.mono_l k
  unfold spec_l7Low.f
  with_reducible repeat' first | exact ih0 _ _ _ _ | exact ih1 _ _ _ _ _ | exact ih2 _ _ _ | exact ih3 _ _ _ _ _ | exact ih4 _ _ _ _ _ _ _ | exact spec_l1Gcd.mono _ _ _ | exact LeO.refl _ | exact LeO.none _ | refine LeO.ite ?_ ?_ | refine LeO.bind ?_ (fun _ => ?_)
set_option maxHeartbeats 8000000 in
set_option maxRecDepth 100000 in
theorem spec_l7Low.calls (k : Nat) (A0 : Option Addr) (c0 : Nat) (l0 : List (List Int)) (a1 : Int) (r1 : List (List Int)) (r2 : Int) (w : World) (hr0 : Kd.C (Kd.slice 3 (Kd.int .i64)) w A0 l0.length l0) (hc0 : l0.length ≤ c0) (h : spec_l7Low.f k l0 a1 = some (r1, r2)) :
    Calls Try.prog 68 #[.slice A0 l0.length c0, .int .i64 a1] w fun e w' => ∃ v0_ : Value, e = .returned (.agg #[v0_, .int .i64 r2]) ∧ Kd.S (Kd.slice 3 (Kd.int .i64)) 23 w' w.heap.size (fun _ => True) v0_ r1 ∧ Below w.heap.size w w' := by
  have hu27 := Try.underlying27; have HR0 := Aside0.mk hr0; have HC0 := Aside0.mk hc0; clear hr0 hc0; have HB := Aside0.mk (Below.refl w.heap.size w); unfold spec_l7Low.f at h; have H := h; clear h; have H' := Aside0.mk H; clear H; go_enter Try.func68, Try.ntmps68
  go_wp2_with (first | ((with_reducible refine gate_dst (N := 4) rfl ?_); refine boxE (N := 4) (cs := #[.slice none 0 0, .int .i64 0]) (t := 27) ?_; intro gb328 hg w3 hbox hb; have BK328 := Aside0.mk (hbox); have GW328 := GS w hg; have GE328 := GS w hg; replace HB := BS hb; clear hb hbox hg))
  go_loopg [5, 6] k (fun kq v5 v6 w' => ∃ (x5_1 : Int) (x6_1 : Int), v5 = .int .i64 x5_1 ∧ v6 = .int .i64 x6_1 ∧ Aside0 (spec_l7Low.l0 kq l0 a1 x5_1 x6_1 = some (r1, r2)) ∧ Aside0 (kq ≤ k) ∧ Aside0 (w'.heap[gb328]? = some (.cells #[(.slice none 0 0), .int .i64 0] 27 (0, 0))) ∧ Aside0 (Below w.heap.size w w'))
  case atStart => exact ⟨(a1), (0), sR, sR, H', ⟨Nat.le_refl _⟩, ⟨U BK328.out⟩, ⟨BU⟩⟩
  case round =>
    clear H'; obtain ⟨x5_1, x6_1, rfl, rfl, HA, HK1, BK328, HB⟩ := hrel; cases gk with
    | zero => exact absurd HA.out (by simp [spec_l7Low.l0])
    | succ k1 =>
      have H := HA.out; clear HA; simp only [spec_l7Low.l0] at H
      by_cases c4 : x6_1 < (l0.length : Int)
      · rw [if_pos c4] at H
        have c4b0 : decide (x6_1 < (l0.length : Int)) = true := decide_eq_true c4; clear c4; have H' := Aside0.mk H; clear H
        go_wp2
        go_loopg [5, 7] k1 (fun kq v5 v7 w' => ∃ (x5_2 : Int) (x7_2 : Int), v5 = .int .i64 x5_2 ∧ v7 = .int .i64 x7_2 ∧ Aside0 (spec_l7Low.l1 kq l0 a1 x5_2 x6_1 x7_2 = some (r1, r2)) ∧ Aside0 (kq ≤ k1) ∧ Aside0 (w'.heap[gb328]? = some (.cells #[(.slice none 0 0), .int .i64 0] 27 (0, 0))) ∧ Aside0 (Below w.heap.size w w'))
        case atStart => exact ⟨(x5_1), (0), sR, sR, H', ⟨Nat.le_refl _⟩, ⟨U BK328.out⟩, ⟨BU⟩⟩
        case round =>
          clear H'; (try clear c4); (try clear c4b0); obtain ⟨x5_2, x7_2, rfl, rfl, HA, HK2, BK328, HB⟩ := hrel; cases gk with
          | zero => exact absurd HA.out (by simp [spec_l7Low.l1])
          | succ k2 =>
            have H := HA.out; clear HA; simp only [spec_l7Low.l1] at H; obtain ⟨c5, H⟩ := ifN H; have c5b0 : decide (0 ≤ x6_1) = true := decide_eq_true c5; clear c5; obtain ⟨c6, H⟩ := ifN H; have c6b0 : decide (x6_1 < (l0.length : Int)) = true := decide_eq_true c6; clear c6
            by_cases c7 : x7_2 < ((rd_L1 l0 x6_1).length : Int)
            · rw [if_pos c7] at H
              have c7b0 : decide (x7_2 < ((rd_L1 l0 x6_1).length : Int)) = true := decide_eq_true c7; clear c7; obtain ⟨c8, H⟩ := ifN H; have c8b0 : decide (0 ≤ x7_2) = true := decide_eq_true c8; clear c8; obtain ⟨t332, A9, H⟩ := bnd H; have H' := Aside0.mk H; clear H; have p329 : 0 ≤ (x6_1 : Int) := oD; have q329 : x6_1 < (l0.length : Int) := oD; obtain ⟨ad329, A329_0, c329_0, e329, hx329_0, hl329_0, hi329_0⟩ := at_L1 HR0.out x6_1 p329 q329; cases e329; replace hx329_0 := (HB.out.cell (World.block_lt_of_cell? w _ hx329_0)).trans hx329_0; have HR329_0 := Aside0.mk hi329_0; have HC329_0 := Aside0.mk hl329_0; clear hi329_0 hl329_0; replace p329 := eq_true p329; replace q329 := eq_true q329; have p330 : 0 ≤ (x6_1 : Int) := oD; have q330 : x6_1 < (l0.length : Int) := oD; obtain ⟨ad330, A330_0, c330_0, e330, hx330_0, hl330_0, hi330_0⟩ := at_L1 HR0.out x6_1 p330 q330; obtain rfl : ad329 = ad330 := (by injection e330); replace hx330_0 := (HB.out.cell (World.block_lt_of_cell? w _ hx330_0)).trans hx330_0; have HR330_0 := Aside0.mk hi330_0; have HC330_0 := Aside0.mk hl330_0; clear hi330_0 hl330_0; replace p330 := eq_true p330; replace q330 := eq_true q330; have ea_ := Option.some.inj (hx329_0.symm.trans hx330_0)
              injection ea_ with ea_ en_ ec_
              subst ea_; subst ec_; clear en_; have p331 : 0 ≤ (x7_2 : Int) := oD; have q331 : x7_2 < ((rd_L1 l0 x6_1).length : Int) := oD; obtain ⟨ad331, e331, hx331_0⟩ := Kd.at_int HR330_0.out x7_2 p331 q331; cases e331; replace hx331_0 := (HB.out.cell (World.block_lt_of_cell? w _ hx331_0)).trans hx331_0; replace p331 := eq_true p331; replace q331 := eq_true q331
              go_wp2_with (first | ((with_reducible refine gate_callee (f := 87) rfl ?_); refine goesK (some 36) Try.func87 #[.int .i64 x5_2, .int .i64 (rd (rd_L1 l0 x6_1) x7_2)] ?_; (with_reducible refine (spec_l1Gcd.calls k2 x5_2 (rd (rd_L1 l0 x6_1) x7_2) t332 _ A9.out).mono ?_); rintro e w10 ⟨rfl, hb⟩; refine ⟨_, rfl, ?_⟩; replace BK328 := bB BK328 hb; replace HB := BS hb; (try clear hb)))
              go_roundg k2
              case measure => have := HK1.out; have := HK2.out; omega
              case rel => exact ⟨(t332), (wrap64 (x7_2 + 1)), sR, sR, H', ⟨by have := HK1.out; have := HK2.out; omega⟩, ⟨U BK328.out⟩, ⟨BU⟩⟩
            rw [if_neg c7] at H; have c7b0 : decide (x7_2 < ((rd_L1 l0 x6_1).length : Int)) = false := decide_eq_false c7; clear c7; have H' := Aside0.mk H; clear H; have p329 : 0 ≤ (x6_1 : Int) := oD; have q329 : x6_1 < (l0.length : Int) := oD; obtain ⟨ad329, A329_0, c329_0, e329, hx329_0, hl329_0, hi329_0⟩ := at_L1 HR0.out x6_1 p329 q329; cases e329; replace hx329_0 := (HB.out.cell (World.block_lt_of_cell? w _ hx329_0)).trans hx329_0; have HR329_0 := Aside0.mk hi329_0; have HC329_0 := Aside0.mk hl329_0; clear hi329_0 hl329_0; replace p329 := eq_true p329; replace q329 := eq_true q329
            go_wp2
            go_roundg k2
            case measure => have := HK1.out; have := HK2.out; omega
            case rel => exact ⟨(x5_2), (wrap64 (x6_1 + 1)), sR, sR, H', ⟨by have := HK1.out; have := HK2.out; omega⟩, ⟨U BK328.out⟩, ⟨BU⟩⟩
      rw [if_neg c4] at H; have c4b0 : decide (x6_1 < (l0.length : Int)) = false := decide_eq_false c4; clear c4; have HC11 := Aside0.mk H; clear H
      go_upto_if 38 with (fail)
      go_cut [5] (fun v5 wc => ∃ (kq : Nat) (x5_10 : Int), v5 = .int .i64 x5_10 ∧ Aside0 (spec_l7Low.j2 kq l0 a1 x5_10 = some (r1, r2)) ∧ Aside0 (kq ≤ k1) ∧ Aside0 (wc.heap[gb328]? = some (.cells #[(.slice none 0 0), .int .i64 0] 27 (0, 0))) ∧ Aside0 (Below w.heap.size w wc))
      case first =>
        have H := HC11.out; clear HC11
        by_cases c12 : a1 < 0
        · rw [if_pos c12] at H
          have c12b0 : decide (a1 < 0) = true := decide_eq_true c12; clear c12
          (first | rw [c12b0] | (simp only [i64_w, i32_w]; rw [c12b0]) | skip)
          have H' := Aside0.mk H; clear H
          go_wp2
          go_meet
          case rel => exact ⟨_, (wrap64 (-x5_1)), sR, H', ⟨by have := HK1.out; first | omega | exact Nat.le_refl _⟩, ⟨U BK328.out⟩, ⟨BU⟩⟩
        rw [if_neg c12] at H; have c12b0 : decide (a1 < 0) = false := decide_eq_false c12; clear c12
        (first | rw [c12b0] | (simp only [i64_w, i32_w]; rw [c12b0]) | skip)
        have H' := Aside0.mk H; clear H
        go_wp2
        go_meet
        case rel => exact ⟨_, (x5_1), sR, H', ⟨by have := HK1.out; first | omega | exact Nat.le_refl _⟩, ⟨U BK328.out⟩, ⟨BU⟩⟩
      case rest =>
        clear HC11; (try clear c4); (try clear c4b0); obtain ⟨kq, x5_10, rfl, HA, HJ10, BK328, HB⟩ := hcut; cases kq with
        | zero => exact absurd HA.out (by simp [spec_l7Low.j2])
        | succ kj10 =>
          have H := HA.out; clear HA; simp only [spec_l7Low.j2] at H; obtain ⟨y333, hy333⟩ : ∃ y_ : List (List Int), y_ = (([] : List (List Int))) := ⟨_, rfl⟩; replace H : (if x5_10 = 0 then (none) else (spec_l7Low.l2 kj10 l0 x5_10 0 y333 (wrap64 (Int.tdiv a1 x5_10)))) = some (r1, r2) := rH hy333 H; have Ny333 := Aside0.mk hy333; clear hy333; obtain ⟨c13, H⟩ := ifM H; have c13b0 : (x5_10 == 0) = false := beq_eq_false_iff_ne.mpr c13; have c13b1 : (x5_10 != 0) = true := bne_iff_ne.mpr c13; have H' := Aside0.mk H; clear H
          go_wp2_with (first | ((with_reducible refine gate_dst (N := 41) rfl ?_); refine Kd.S_lit (Kd.slice 3 (Kd.int .i64)) _ 23 ?hg (N := 41) ?hd (xs := ([] : List (List Int))) (inner := []) (ok := fun _ => True) (okp := fun _ => True) ?hr ?hp (fun _ hk => hk) trivial (Below.refl _ _) (Nat.le_refl _) (by simp) ?_; (case hd => rfl); (case hg => rfl); (case hr => first | (go_simp; done) | (go_simp; rfl)); (case hp => exact (Reps.none _ _)); intro v334 w14 ho15 hb hg_ hnew_; clear hg_ hnew_; (first | rw [← Ny333.out] at ho15 | (simp only [Int.reduceToNat] at ho15; rw [← Ny333.out] at ho15)); have HO335 := Aside0.mk (Kd.S_lower ho15 (below_size BU)); replace BK328 := bB BK328 hb; replace HB := BS hb; clear hb ho15; obtain ⟨Ao16, co16, eo16⟩ := Kd.S_slice HO335.out; subst eo16) | ((with_reducible refine gate_dst (N := 8) rfl ?_); refine boxE (N := 8) (cs := #[.slice none 0 0, .int .i64 0]) (t := 27) ?_; intro gb336 hg w17 hbox hb; replace HO335 := Aside0.mk (Kd.S_below (U HO335.out) hb); have BK336 := Aside0.mk (hbox); have GW336 := GS w hg; have GE336 := GS w hg; replace HB := BS hb; have NB328_336 := NL BK328 hg; have NB336_328 := NG BK328 hg; replace BK328 := bB BK328 hb; clear hb hbox hg; have hnb18 := NB336_328.out; have hnc18 := NB328_336.out; obtain ⟨hcz19_0, hcz19_1, hfz19_0, hfz19_1⟩ := bcf BK336))
          go_loopg [9] kj10 (fun kq v9 w' => ∃ (x9_3 : Int) (x337000_3 : List (List Int)) (u337000 : Value), v9 = .int .i64 x9_3 ∧ Aside0 (spec_l7Low.l2 kq l0 x5_10 x9_3 x337000_3 (wrap64 (Int.tdiv a1 x5_10)) = some (r1, r2)) ∧ Aside0 (kq ≤ kj10) ∧ Aside0 (Kd.S (Kd.slice 3 (Kd.int .i64)) 23 w' w.heap.size (fun _ => True) u337000 x337000_3) ∧ Aside0 (w'.heap[gb328]? = some (.cells #[(.slice none 0 0), .int .i64 0] 27 (0, 0))) ∧ Aside0 (w'.heap[gb336]? = some (.cells #[u337000, .int .i64 (wrap64 (Int.tdiv a1 x5_10))] 27 (0, 0))) ∧ Aside0 (Below w.heap.size w w'))
          case atStart => exact ⟨(0), (y333), (.slice Ao16 y333.length co16), sR, H', ⟨Nat.le_refl _⟩, ⟨Kd.SM (Kd.S_far (p := ⟨gb336, 1, none⟩) (Kd.S_far (p := ⟨gb336, 0, none⟩) (Kd.S_types HO335.out BK336.out (by decide)) (fun _ hk => hk.2) (.slice Ao16 y333.length co16)) (fun _ hk => hk.2) (.int .i64 (wrap64 (Int.tdiv a1 x5_10)))) (fun _ hk => trivial)⟩, ⟨by (with_reducible repeat (first | refine blk_drewN ?_ _ | refine blk_drew ?_ | refine blk_alloc ?_ _)); refine blk_far ?_ NB328_336.out _; (with_reducible repeat (first | refine blk_drewN ?_ _ | refine blk_drew ?_ | refine blk_alloc ?_ _)); refine blk_far ?_ NB328_336.out _; (with_reducible repeat (first | refine blk_drewN ?_ _ | refine blk_drew ?_ | refine blk_alloc ?_ _)); exact BK328.out⟩, ⟨by (with_reducible repeat (first | refine blk_drewN ?_ _ | refine blk_drew ?_ | refine blk_alloc ?_ _)); refine blk_put (cs := #[.slice Ao16 y333.length co16, .int .i64 0]) ?_ 1 _ rfl; (with_reducible repeat (first | refine blk_drewN ?_ _ | refine blk_drew ?_ | refine blk_alloc ?_ _)); refine blk_put (cs := #[.slice none 0 0, .int .i64 0]) ?_ 0 _ rfl; (with_reducible repeat (first | refine blk_drewN ?_ _ | refine blk_drew ?_ | refine blk_alloc ?_ _)); exact BK336.out⟩, ⟨BU⟩⟩
          case round =>
            clear H'; (try clear c4); (try clear c4b0); (try clear c13); (try clear c13b0); (try clear c13b1); (try clear hcz19_0); (try clear hcz19_1); (try clear hfz19_0); (try clear hfz19_1); obtain ⟨x9_3, x337000_3, u337000, rfl, HA, HK3, HO_337000, BK328, BK336, HB⟩ := hrel; cases gk with
            | zero => exact absurd HA.out (by simp [spec_l7Low.l2])
            | succ k3 =>
              have H := HA.out; clear HA; simp only [spec_l7Low.l2] at H
              by_cases c20 : x9_3 < (l0.length : Int)
              · rw [if_pos c20] at H
                have c20b0 : decide (x9_3 < (l0.length : Int)) = true := decide_eq_true c20; clear c20; obtain ⟨y337, hy337⟩ : ∃ y_ : List Int, y_ = (([] : List Int)) := ⟨_, rfl⟩; replace H : (spec_l7Low.l3 k3 l0 x5_10 x9_3 y337 0 x337000_3 (wrap64 (Int.tdiv a1 x5_10))) = some (r1, r2) := rH hy337 H; have Ny337 := Aside0.mk hy337; clear hy337; have H' := Aside0.mk H; clear H
                go_wp2_with (first | ((with_reducible refine gate_dst (N := 52) rfl ?_); refine Kd.R_lit (Kd.int .i64) _ 3 ?hg (N := 52) ?hd (xs := ([] : List Int)) (inner := []) (ok := fun _ => True) (okp := fun _ => True) ?hr ?hp (fun _ hk => hk) trivial (Below.refl _ _) (Nat.le_refl _) (by simp) ?_; (case hd => rfl); (case hg => rfl); (case hr => first | (go_simp; done) | (go_simp; rfl)); (case hp => exact (Reps.none _ _)); intro v338 w21 ho22 hb hg_ hnew_; clear hg_ hnew_; (first | rw [← Ny337.out] at ho22 | (simp only [Int.reduceToNat] at ho22; rw [← Ny337.out] at ho22)); replace HO_337000 := Aside0.mk (Kd.S_elder' (U HO_337000.out) (Kd.R_base ho22) hb); have HO339 := Aside0.mk (Kd.R_lower ho22 (below_size BU)); replace BK328 := bB BK328 hb; replace BK336 := bB BK336 hb; replace HB := BS hb; clear hb ho22))
                go_loopg [10, 11] k3 (fun kq v10 v11 w' => ∃ (x10_4 : List Int) (x11_4 : Int), v11 = .int .i64 x11_4 ∧ Aside0 (spec_l7Low.l3 kq l0 x5_10 x9_3 x10_4 x11_4 x337000_3 (wrap64 (Int.tdiv a1 x5_10)) = some (r1, r2)) ∧ Aside0 (kq ≤ k3) ∧ Aside0 (Kd.R (Kd.int .i64) 3 w' w.heap.size (fun _ => True) v10 x10_4) ∧ Aside0 (Kd.S (Kd.slice 3 (Kd.int .i64)) 23 w' w.heap.size (fun k_ => some k_ ≠ (v10 : Value).ownBlock) u337000 x337000_3) ∧ Aside0 (w'.heap[gb328]? = some (.cells #[(.slice none 0 0), .int .i64 0] 27 (0, 0))) ∧ Aside0 (w'.heap[gb336]? = some (.cells #[u337000, .int .i64 (wrap64 (Int.tdiv a1 x5_10))] 27 (0, 0))) ∧ Aside0 (Below w.heap.size w w'))
                case atStart => exact ⟨(y337), (0), sR, H', ⟨Nat.le_refl _⟩, ⟨U HO339.out⟩, ⟨Kd.SM HO_337000.out (fun _ hk => hk.2)⟩, ⟨U BK328.out⟩, ⟨U BK336.out⟩, ⟨BU⟩⟩
                case round =>
                  clear H'; (try clear c4); (try clear c4b0); (try clear c13); (try clear c13b0); (try clear c13b1); (try clear c20); (try clear c20b0); (try clear hcz19_0); (try clear hcz19_1); (try clear hfz19_0); (try clear hfz19_1); obtain ⟨x10_4, x11_4, rfl, HA, HK4, HO_10, HO_337000, BK328, BK336, HB⟩ := hrel; cases gk with
                  | zero => exact absurd HA.out (by simp [spec_l7Low.l3])
                  | succ k4 =>
                    have H := HA.out; clear HA; simp only [spec_l7Low.l3] at H; obtain ⟨c23, H⟩ := ifN H; have c23b0 : decide (0 ≤ x9_3) = true := decide_eq_true c23; clear c23; obtain ⟨c24, H⟩ := ifN H; have c24b0 : decide (x9_3 < (l0.length : Int)) = true := decide_eq_true c24; clear c24
                    by_cases c25 : x11_4 < ((rd_L1 l0 x9_3).length : Int)
                    · rw [if_pos c25] at H
                      have c25b0 : decide (x11_4 < ((rd_L1 l0 x9_3).length : Int)) = true := decide_eq_true c25; clear c25; obtain ⟨c26, H⟩ := ifN H; have c26b0 : decide (0 ≤ x11_4) = true := decide_eq_true c26; clear c26; obtain ⟨c27, H⟩ := ifM H; have c27b0 : (x5_10 == 0) = false := beq_eq_false_iff_ne.mpr c27; have c27b1 : (x5_10 != 0) = true := bne_iff_ne.mpr c27; obtain ⟨c28, H⟩ := ifN H; have LMc28 := Aside0.mk c28; clear c28; obtain ⟨y343, hy343⟩ : ∃ y_ : List Int, y_ = (x10_4 ++ [wrap64 (Int.tdiv (rd (rd_L1 l0 x9_3) x11_4) x5_10)]) := ⟨_, rfl⟩; replace H : (spec_l7Low.l3 k4 l0 x5_10 x9_3 y343 (wrap64 (x11_4 + 1)) x337000_3 (wrap64 (Int.tdiv a1 x5_10))) = some (r1, r2) := rH hy343 H; have Ny343 := Aside0.mk hy343; clear hy343; have H' := Aside0.mk H; clear H; have p340 : 0 ≤ (x9_3 : Int) := oD; have q340 : x9_3 < (l0.length : Int) := oD; obtain ⟨ad340, A340_0, c340_0, e340, hx340_0, hl340_0, hi340_0⟩ := at_L1 HR0.out x9_3 p340 q340; cases e340; replace hx340_0 := (HB.out.cell (World.block_lt_of_cell? w _ hx340_0)).trans hx340_0; have HR340_0 := Aside0.mk hi340_0; have HC340_0 := Aside0.mk hl340_0; clear hi340_0 hl340_0; replace p340 := eq_true p340; replace q340 := eq_true q340; have p341 : 0 ≤ (x9_3 : Int) := oD; have q341 : x9_3 < (l0.length : Int) := oD; obtain ⟨ad341, A341_0, c341_0, e341, hx341_0, hl341_0, hi341_0⟩ := at_L1 HR0.out x9_3 p341 q341; obtain rfl : ad340 = ad341 := (by injection e341); replace hx341_0 := (HB.out.cell (World.block_lt_of_cell? w _ hx341_0)).trans hx341_0; have HR341_0 := Aside0.mk hi341_0; have HC341_0 := Aside0.mk hl341_0; clear hi341_0 hl341_0; replace p341 := eq_true p341; replace q341 := eq_true q341; have ea_ := Option.some.inj (hx340_0.symm.trans hx341_0)
                      injection ea_ with ea_ en_ ec_
                      subst ea_; subst ec_; clear en_; have p342 : 0 ≤ (x11_4 : Int) := oD; have q342 : x11_4 < ((rd_L1 l0 x9_3).length : Int) := oD; obtain ⟨ad342, e342, hx342_0⟩ := Kd.at_int HR341_0.out x11_4 p342 q342; cases e342; replace hx342_0 := (HB.out.cell (World.block_lt_of_cell? w _ hx342_0)).trans hx342_0; replace p342 := eq_true p342; replace q342 := eq_true q342
                      go_wp2_with (first | ((with_reducible refine gate_builtin (b := .append) (xs := #[.tmp 62, .tmp 72]) rfl ?_); at_builtin; refine Kd.R_append (Kd.int .i64) (w0 := w) w.heap.size rfl (.tmp 62) (.tmp 72) 23 3 (.int .i64 0) 8 rfl Try.underlying23 info3 rfl (by decide) (by omega) u10 x10_4 (wrap64 (Int.tdiv (rd (rd_L1 l0 x9_3) x11_4) x5_10)) [.int .i64 (wrap64 (Int.tdiv (rd (rd_L1 l0 x9_3) x11_4) x5_10))] (fun _ => True) (fun _ => False) rfl rfl ?aP (fun _ hk => hk.elim) ?aF ?aO ?aB ?aS ?aL ?_; (case aP => exact rfl); (case aB => exact BU); (case aF => exact (fun _ _ => trivial)); (case aO => exact (U HO_10.out)); (case aS => exact (below_size BU)); (case aL => have := LMc28.out; omega); intro v344 w29 ho hb hg hat; rw [← Ny343.out] at ho; have n0_ := Aside0.mk (Kd.S_after (ok := (fun _ => True)) (Kd.SM HO_337000.out (fun _ hk => ⟨trivial, hk⟩)) hg hat); have n1_ := bG BK328 hg (Kd.R_ne HO_10.out BK328.out (by decide)); have n2_ := bG BK336 hg (Kd.R_ne HO_10.out BK336.out (by decide)); have n3_ := Aside0.mk (hb); have n4_ := Aside0.mk (ho); clear HO_337000; clear BK328; clear BK336; try clear HB; clear HO_10; have HO_337000 := n0_; have BK328 := n1_; have BK336 := n2_; have HB := n3_; have HO345 := n4_; clear n0_ n1_ n2_ n3_ n4_; clear ho hb hg hat))
                      go_roundg k4
                      case measure => have := HK1.out; have := HJ10.out; have := HK3.out; have := HK4.out; omega
                      case rel => exact ⟨(y343), (wrap64 (x11_4 + 1)), sR, H', ⟨by have := HK1.out; have := HJ10.out; have := HK3.out; have := HK4.out; omega⟩, ⟨U HO345.out⟩, ⟨Kd.SM HO_337000.out (fun _ hk => hk.2)⟩, ⟨U BK328.out⟩, ⟨U BK336.out⟩, ⟨BU⟩⟩
                    rw [if_neg c25] at H; have c25b0 : decide (x11_4 < ((rd_L1 l0 x9_3).length : Int)) = false := decide_eq_false c25; clear c25; obtain ⟨c30, H⟩ := ifN H; have LMc30 := Aside0.mk c30; clear c30; obtain ⟨y346, hy346⟩ : ∃ y_ : List (List Int), y_ = (x337000_3 ++ [x10_4]) := ⟨_, rfl⟩; replace H : (spec_l7Low.l2 k4 l0 x5_10 (wrap64 (x9_3 + 1)) y346 (wrap64 (Int.tdiv a1 x5_10))) = some (r1, r2) := rH hy346 H; have Ny346 := Aside0.mk hy346; clear hy346; have H' := Aside0.mk H; clear H; have p340 : 0 ≤ (x9_3 : Int) := oD; have q340 : x9_3 < (l0.length : Int) := oD; obtain ⟨ad340, A340_0, c340_0, e340, hx340_0, hl340_0, hi340_0⟩ := at_L1 HR0.out x9_3 p340 q340; cases e340; replace hx340_0 := (HB.out.cell (World.block_lt_of_cell? w _ hx340_0)).trans hx340_0; have HR340_0 := Aside0.mk hi340_0; have HC340_0 := Aside0.mk hl340_0; clear hi340_0 hl340_0; replace p340 := eq_true p340; replace q340 := eq_true q340; have hnb31 := NB336_328.out; have hnc31 := NB328_336.out; obtain ⟨hcz32_0, hcz32_1, hfz32_0, hfz32_1⟩ := bcf BK336; obtain ⟨Ao34, co34, eo34⟩ := Kd.R_slice HO_10.out; subst eo34
                    go_wp2_with (first | ((with_reducible refine gate_builtin (b := .append) (xs := #[.tmp 75, .tmp 77]) rfl ?_); at_builtin; refine Kd.S_append (Kd.slice 3 (Kd.int .i64)) (w0 := w) w.heap.size rfl (.tmp 75) (.tmp 77) 25 23 (.slice none 0 0) 24 rfl Try.underlying25 info23 rfl (by decide) (by omega) u337000 x337000_3 x10_4 [.slice Ao34 x10_4.length co34] (fun _ => True) (fun k_ => some k_ = (.slice Ao34 x10_4.length co34 : Value).ownBlock) rfl rfl ?aP (fun k_ hk_ => ((Kd.R_mono (ok' := fun k_ => ((fun _ => True)) k_ ∧ some k_ ≠ (u337000 : Value).ownBlock) (Kd.R_apart' (HO_10.out) (Kd.S_typed HO_337000.out) (by decide)) (fun k_ hk => ⟨trivial, hk.2⟩))).1 k_ hk_.symm) ?aF ?aO ?aB ?aS ?aL ?_; (case aP => exact Kd.M_row (Kd.R_mono (Kd.R_tight rfl (Kd.R_mono (ok' := fun k_ => ((fun _ => True)) k_ ∧ some k_ ≠ (u337000 : Value).ownBlock) (Kd.R_apart' (HO_10.out) (Kd.S_typed HO_337000.out) (by decide)) (fun k_ hk => ⟨trivial, hk.2⟩))) (fun _ h_ => h_))); (case aB => exact BU); (case aF => exact (fun _ _ => trivial)); (case aO => exact (Kd.SM HO_337000.out (fun k_ hk => ⟨trivial, fun e_ => hk e_⟩))); (case aS => exact (below_size BU)); (case aL => have := LMc30.out; omega); intro v347 w33 ho hb hg hat; rw [← Ny346.out] at ho; have n0_ := bG BK328 hg (Kd.S_ne HO_337000.out BK328.out (by decide)); have n1_ := bG BK336 hg (Kd.S_ne HO_337000.out BK336.out (by decide)); have n2_ := Aside0.mk (hb); have n3_ := Aside0.mk (ho); clear BK328; clear BK336; try clear HB; clear HO_337000; clear HO_10; have BK328 := n0_; have BK336 := n1_; have HB := n2_; have HO348 := n3_; clear n0_ n1_ n2_ n3_; clear ho hb hg hat; obtain ⟨Ao35, co35, eo35⟩ := Kd.S_slice HO348.out; subst eo35; obtain ⟨hcz36_0, hcz36_1, hfz36_0, hfz36_1⟩ := bcf BK336))
                    go_roundg k4
                    case measure => have := HK1.out; have := HJ10.out; have := HK3.out; have := HK4.out; omega
                    case rel => exact ⟨(wrap64 (x9_3 + 1)), (y346), (.slice Ao35 y346.length co35), sR, H', ⟨by have := HK1.out; have := HJ10.out; have := HK3.out; have := HK4.out; omega⟩, ⟨Kd.SM (Kd.S_far (p := ⟨gb336, 0, none⟩) (Kd.S_types HO348.out BK336.out (by decide)) (fun _ hk => hk.2) (.slice Ao35 y346.length co35)) (fun _ hk => trivial)⟩, ⟨by (with_reducible repeat (first | refine blk_drewN ?_ _ | refine blk_drew ?_ | refine blk_alloc ?_ _)); refine blk_far ?_ NB328_336.out _; (with_reducible repeat (first | refine blk_drewN ?_ _ | refine blk_drew ?_ | refine blk_alloc ?_ _)); exact BK328.out⟩, ⟨by (with_reducible repeat (first | refine blk_drewN ?_ _ | refine blk_drew ?_ | refine blk_alloc ?_ _)); refine blk_put (cs := #[u337000, .int .i64 (wrap64 (Int.tdiv a1 x5_10))]) ?_ 0 _ rfl; (with_reducible repeat (first | refine blk_drewN ?_ _ | refine blk_drew ?_ | refine blk_alloc ?_ _)); exact BK336.out⟩, ⟨BU⟩⟩
              rw [if_neg c20] at H; have c20b0 : decide (x9_3 < (l0.length : Int)) = false := decide_eq_false c20; clear c20; simp only [Option.some.injEq, Prod.mk.injEq] at H; obtain ⟨rfl, rfl⟩ := H; have hnb37 := NB336_328.out; have hnc37 := NB328_336.out; obtain ⟨hcz38_0, hcz38_1, hfz38_0, hfz38_1⟩ := bcf BK336; obtain ⟨Ao39, co39, eo39⟩ := Kd.S_slice HO_337000.out; subst eo39; obtain ⟨hcz40_0, hcz40_1, hfz40_0, hfz40_1⟩ := bcf BK328
              go_wp2
              refine bodyPost_ret (results_cell_row rfl _ _ gb328 27 #[.slice Ao39 x337000_3.length co39, .int .i64 (wrap64 (Int.tdiv a1 x5_10))] (0, 0) _ rfl (by (with_reducible repeat (first | refine blk_drewN ?_ _ | refine blk_drew ?_ | refine blk_alloc ?_ _)); refine blk_put (cs := #[.slice Ao39 x337000_3.length co39, .int .i64 0]) ?_ 1 _ rfl; (with_reducible repeat (first | refine blk_drewN ?_ _ | refine blk_drew ?_ | refine blk_alloc ?_ _)); refine blk_put (cs := #[.slice none 0 0, .int .i64 0]) ?_ 0 _ rfl; (with_reducible repeat (first | refine blk_drewN ?_ _ | refine blk_drew ?_ | refine blk_alloc ?_ _)); exact BK328.out) Try.underlying27 rfl (by kernel_rfl)) rfl ?_
              exact ⟨_, eR, Kd.SM (Kd.S_far (p := ⟨gb328, 1, none⟩) (Kd.S_far (p := ⟨gb328, 0, none⟩) (Kd.S_types HO_337000.out BK328.out (by decide)) (fun _ hk => hk.2) (.slice Ao39 x337000_3.length co39)) (fun _ hk => hk.2) (.int .i64 (wrap64 (Int.tdiv a1 x5_10)))) (fun _ hk => trivial), BU⟩

/-! ### spec_l4Value: function 75 -/
def spec_l4Value.l0 : Nat → List Int → List Int → Int → Int → Option (Int)
  | 0, _, _, _, _ => none
  | k + 1, x0, x1, x5, x6 => if x6 < (x0.length : Int) then (if 0 ≤ x6 then (if x6 < (x1.length : Int) then (spec_l4Value.l0 k x0 x1 (wrap64 (x5 + (wrap64 ((wrap64 ((rd x0 x6) * (rd x1 x6))) * (rd x1 x6))))) (wrap64 (x6 + 1))) else (none)) else (none)) else (some x5)
def spec_l4Value.f (k : Nat) (l0 : List Int) (l1 : List Int) : Option (Int) := spec_l4Value.l0 k l0 l1 0 0
theorem spec_l4Value.mono_l : ∀ k, (∀ y0 y1 y2 y3, LeO (spec_l4Value.l0 k y0 y1 y2 y3) (spec_l4Value.l0 (k + 1) y0 y1 y2 y3))
  | 0 => fun _ _ _ _ r h => by simp [spec_l4Value.l0] at h
  | k + 1 => by
    have ih0 := spec_l4Value.mono_l k
    · intro y0 y1 y2 y3
      unfold spec_l4Value.l0
      with_reducible repeat' first | exact ih0 _ _ _ _ | exact LeO.refl _ | exact LeO.none _ | refine LeO.ite ?_ ?_ | refine LeO.bind ?_ (fun _ => ?_)
theorem spec_l4Value.mono : ∀ a0 a1 k, LeO (spec_l4Value.f k a0 a1) (spec_l4Value.f (k + 1) a0 a1) := by
  intro a0 a1 k
  have ih0 := spec_l4Value.mono_l k
  unfold spec_l4Value.f
  with_reducible repeat' first | exact ih0 _ _ _ _ | exact LeO.refl _ | exact LeO.none _ | refine LeO.ite ?_ ?_ | refine LeO.bind ?_ (fun _ => ?_)
set_option maxHeartbeats 8000000 in
set_option maxRecDepth 100000 in
theorem spec_l4Value.calls (k : Nat) (A0 : Option Addr) (c0 : Nat) (l0 : List Int) (A1 : Option Addr) (c1 : Nat) (l1 : List Int) (r : Int) (w : World) (hr0 : Kd.C (Kd.int .i64) w A0 l0.length l0) (hc0 : l0.length ≤ c0) (hr1 : Kd.C (Kd.int .i64) w A1 l1.length l1) (hc1 : l1.length ≤ c1) (h : spec_l4Value.f k l0 l1 = some r) :
    Calls Try.prog 75 #[.slice A0 l0.length c0, .slice A1 l1.length c1] w fun e w' => e = .returned (.int .i64 r) ∧ Drawn0 w w' := by
  have HR0 := Aside0.mk hr0; have HC0 := Aside0.mk hc0; clear hr0 hc0; have HR1 := Aside0.mk hr1; have HC1 := Aside0.mk hc1; clear hr1 hc1; unfold spec_l4Value.f at h; have H := h; clear h; have H' := Aside0.mk H; clear H; go_enter Try.func75, Try.ntmps75
  go_wp2
  go_loopg [5, 6] k (fun kq v5 v6 w' => ∃ (x5_1 : Int) (x6_1 : Int), v5 = .int .i64 x5_1 ∧ v6 = .int .i64 x6_1 ∧ Aside0 (spec_l4Value.l0 kq l0 l1 x5_1 x6_1 = some r) ∧ Aside0 (kq ≤ k) ∧ Drawn0 w w')
  case atStart => exact ⟨(0), (0), sR, sR, H', ⟨Nat.le_refl _⟩, by repeat (first | exact Drawn0.refl _ | apply Drawn0.step)⟩
  case round =>
    clear H'; obtain ⟨x5_1, x6_1, rfl, rfl, HA, HK1, ⟨m1, rfl⟩⟩ := hrel; cases gk with
    | zero => exact absurd HA.out (by simp [spec_l4Value.l0])
    | succ k1 =>
      have H := HA.out; clear HA; simp only [spec_l4Value.l0] at H
      by_cases c3 : x6_1 < (l0.length : Int)
      · rw [if_pos c3] at H
        have c3b0 : decide (x6_1 < (l0.length : Int)) = true := decide_eq_true c3; clear c3; obtain ⟨c4, H⟩ := ifN H; have c4b0 : decide (0 ≤ x6_1) = true := decide_eq_true c4; clear c4; obtain ⟨c5, H⟩ := ifN H; have c5b0 : decide (x6_1 < (l1.length : Int)) = true := decide_eq_true c5; clear c5; have H' := Aside0.mk H; clear H; have p349 : 0 ≤ (x6_1 : Int) := oD; have q349 : x6_1 < (l0.length : Int) := oD; obtain ⟨ad349, e349, hx349_0⟩ := Kd.at_int HR0.out x6_1 p349 q349; cases e349; replace p349 := eq_true p349; replace q349 := eq_true q349; have p350 : 0 ≤ (x6_1 : Int) := oD; have q350 : x6_1 < (l1.length : Int) := oD; obtain ⟨ad350, e350, hx350_0⟩ := Kd.at_int HR1.out x6_1 p350 q350; cases e350; replace p350 := eq_true p350; replace q350 := eq_true q350; have p351 : 0 ≤ (x6_1 : Int) := oD; have q351 : x6_1 < (l1.length : Int) := oD; obtain ⟨ad351, e351, hx351_0⟩ := Kd.at_int HR1.out x6_1 p351 q351; obtain rfl : ad350 = ad351 := (by injection e351); replace p351 := eq_true p351; replace q351 := eq_true q351
        go_wp2
        repeat (go_quiet (fail); try go_wp2)
        go_roundg k1
        case measure => have := HK1.out; omega
        case rel => exact ⟨(wrap64 (x5_1 + (wrap64 ((wrap64 ((rd l0 x6_1) * (rd l1 x6_1))) * (rd l1 x6_1))))), (wrap64 (x6_1 + 1)), sR, sR, H', ⟨by have := HK1.out; omega⟩, by repeat (first | exact Drawn0.refl _ | apply Drawn0.step)⟩
      rw [if_neg c3] at H; have c3b0 : decide (x6_1 < (l0.length : Int)) = false := decide_eq_false c3; clear c3; obtain rfl := Option.some.inj H
      go_wp2
      repeat (go_quiet (fail); try go_wp2)
      go_ret
      exact ⟨by first | rfl | (simp; done) | (simp [*]; done), by repeat (first | exact Drawn0.refl _ | apply Drawn0.step)⟩

end Go.Proofs.Ytnbeeogmaamgdaa.PFnSplitMove
