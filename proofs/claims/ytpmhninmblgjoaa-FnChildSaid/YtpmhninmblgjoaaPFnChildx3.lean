-- Written by a program of this session (wip/print2.py): the functions that the law reaches, plain, and the walks.
import Derived.Test.YtpmhninmblgjoaaPFnChildx0
import Derived.Test.YtpmhninmblgjoaaPFnChildx2
namespace Go.Proofs.Ytpmhninmblgjoaa.PFnChild
open Go.RowKit Go.Proofs.YtpmhninmblgjoaaW.PrintWords Go.Proofs.YtpmhninmblgjoaaW.PrintLast Go.Proofs.YtpmhninmblgjoaaW.PrintMore
attribute [local go_sem] max2_int min2_int max_two min_two max_three min_three max_four min_four   -- for this text's walks alone
set_option linter.unusedVariables false
set_option linter.unusedSimpArgs false

/-! ### spec_l6Rd_pick: function 49 -/
def spec_l6Rd_pick.j0 : Nat → Int → Bool → List Int → Int → Option (Int × Int)
  | 0, _, _, _, _ => none
  | k + 1, x1, x24, x1000, x1001 => if x24 = true then (some (0, x1001)) else (if (wrap64 (x1001 - 1)) < (x1000.length : Int) then (if 0 ≤ (wrap64 (x1001 - 1)) then (if x1 = 0 then (none) else (some (Int.tmod (wrap64 (rd x1000 (wrap64 (x1001 - 1)))) x1, x1001))) else (none)) else (if (x1000.length : Int) = 0 then (none) else (if 0 ≤ (Int.tmod (wrap64 (x1001 - 1)) (x1000.length : Int)) then (if (Int.tmod (wrap64 (x1001 - 1)) (x1000.length : Int)) < (x1000.length : Int) then (if 0 ≤ (Int.tmod (wrap64 ((wrap64 ((wrap64 (x1001 - 1)) * 7)) + 3)) (x1000.length : Int)) then (if (Int.tmod (wrap64 ((wrap64 ((wrap64 (x1001 - 1)) * 7)) + 3)) (x1000.length : Int)) < (x1000.length : Int) then (if x1 = 0 then (none) else (some (Int.tmod (Go.bits .xor .i64 (wrap64 ((wrap64 ((wrap64 ((wrap64 ((wrap64 (rd x1000 (Int.tmod (wrap64 (x1001 - 1)) (x1000.length : Int)))) * 131)) + (wrap64 ((wrap64 (rd x1000 (Int.tmod (wrap64 ((wrap64 ((wrap64 (x1001 - 1)) * 7)) + 3)) (x1000.length : Int)))) * 1117)))) + (wrap64 ((wrap64 (x1001 - 1)) * 29)))) + (wrap64 ((wrap64 (Int.tdiv (wrap64 (x1001 - 1)) (x1000.length : Int))) * 53)))) (wrap64 (Int.tdiv (wrap64 ((wrap64 ((wrap64 ((wrap64 ((wrap64 (rd x1000 (Int.tmod (wrap64 (x1001 - 1)) (x1000.length : Int)))) * 131)) + (wrap64 ((wrap64 (rd x1000 (Int.tmod (wrap64 ((wrap64 ((wrap64 (x1001 - 1)) * 7)) + 3)) (x1000.length : Int)))) * 1117)))) + (wrap64 ((wrap64 (x1001 - 1)) * 29)))) + (wrap64 ((wrap64 (Int.tdiv (wrap64 (x1001 - 1)) (x1000.length : Int))) * 53)))) 64))) x1, x1001))) else (none)) else (none)) else (none)) else (none))))
def spec_l6Rd_pick.f (k : Nat) (s0_0 : List Int) (s0_1 : Int) (a1 : Int) : Option (Int × Int) := if a1 < 1 then (spec_l6Rd_pick.j0 k a1 true s0_0 (wrap64 (s0_1 + 1))) else (spec_l6Rd_pick.j0 k a1 ((s0_0.length : Int) == 0) s0_0 (wrap64 (s0_1 + 1)))
theorem spec_l6Rd_pick.mono_l : ∀ k, (∀ y0 y1 y2 y3, LeO (spec_l6Rd_pick.j0 k y0 y1 y2 y3) (spec_l6Rd_pick.j0 (k + 1) y0 y1 y2 y3))
  | 0 => fun _ _ _ _ r h => by simp [spec_l6Rd_pick.j0] at h
  | k + 1 => by
    have ih0 := spec_l6Rd_pick.mono_l k
    · intro y0 y1 y2 y3
      unfold spec_l6Rd_pick.j0
      repeat' first
      | (with_reducible exact ih0 _ _ _ _)
      | (with_reducible exact LeO.refl _)
      | (with_reducible exact LeO.none _)
      | (with_reducible refine LeO.ite ?_ ?_)
      | (with_reducible refine LeO.bind ?_ (fun _ => ?_))
      | exact ih0 _ _ _ _
      | exact LeO.none _
      | refine LeO.ite ?_ ?_
      | refine LeO.bind ?_ (fun _ => ?_)
theorem spec_l6Rd_pick.mono : ∀ a0 a1 a2 k, LeO (spec_l6Rd_pick.f k a0 a1 a2) (spec_l6Rd_pick.f (k + 1) a0 a1 a2) := by
  intro a0 a1 a2 k
  have ih0 := spec_l6Rd_pick.mono_l k
  unfold spec_l6Rd_pick.f
  repeat' first
      | (with_reducible exact ih0 _ _ _ _)
      | (with_reducible exact LeO.refl _)
      | (with_reducible exact LeO.none _)
      | (with_reducible refine LeO.ite ?_ ?_)
      | (with_reducible refine LeO.bind ?_ (fun _ => ?_))
      | exact ih0 _ _ _ _
      | exact LeO.none _
      | refine LeO.ite ?_ ?_
      | refine LeO.bind ?_ (fun _ => ?_)
set_option maxHeartbeats 8000000 in
set_option maxRecDepth 100000 in
theorem spec_l6Rd_pick.calls (k : Nat) (g : Nat) (s0_0 : List Int) (s0_1 : Int) (a1 : Int) (r1 : Int) (r2 : Int) (w0 w : World) (hI : IsS64 w0 w g s0_0 s0_1) (hB : Below w0.heap.size w0 w) (h : spec_l6Rd_pick.f k s0_0 s0_1 a1 = some (r1, r2)) :
    Calls Try.prog 49 #[.pointer (some ⟨g, 0, none⟩), .int .i64 a1] w fun e w' => e = .returned (.int .i64 r1) ∧ IsS64 w0 w' g s0_0 r2 ∧ Below w0.heap.size w0 w' ∧ KeepBut w w' g none := by
  have HI0 := Aside0.mk hI
  have HK := Aside0.mk (KeepBut.refl w g none)
  have HL := Aside0.mk hB.size
  clear hI
  have HW0 := Aside0.mk hB.size
  have HB := Aside0.mk hB
  clear hB
  have H : (if a1 < 1 then (spec_l6Rd_pick.j0 k a1 true s0_0 (wrap64 (s0_1 + 1))) else (spec_l6Rd_pick.j0 k a1 ((s0_0.length : Int) == 0) s0_0 (wrap64 (s0_1 + 1)))) = some (r1, r2) := h
  clear h
  have HC3 := Aside0.mk H
  clear H
  obtain ⟨ASz4_0, cSz4_0, HGz4, hgz4, HSz4_0⟩ := HI0.out
  have hcz4_0 := cellS64_0 HGz4
  have hcz4_1 := cellS64_1 HGz4
  have hfz4_1 := blk_frozen HGz4 1
  clear HGz4 hgz4
  go_enter Try.func49, Try.ntmps49
  go_upto_region 2 with (fail)
  repeat (go_quiet (fail); go_upto_region 2 with (fail))
  go_cut [24] (fun v24 wc => ∃ (kq : Nat) (x24_2 : Bool), v24 = .bool x24_2 ∧ Aside0 (spec_l6Rd_pick.j0 kq a1 x24_2 s0_0 (wrap64 (s0_1 + 1)) = some (r1, r2)) ∧ Aside0 (kq ≤ k) ∧ Aside0 (IsS64 w0 wc g s0_0 (wrap64 (s0_1 + 1))) ∧ Aside0 (KeepBut w wc g none) ∧ Aside0 (Below w0.heap.size w0 wc))
  case first =>
    have H := HC3.out
    clear HC3
    by_cases c5 : a1 < 1
    · rw [if_pos c5] at H
      have c5b0 : decide (a1 < 1) = true := decide_eq_true c5
      clear c5
      (first | rw [c5b0] | (simp only [i64_w, i32_w]; rw [c5b0]) | skip)
      have H' := Aside0.mk H
      clear H
      go_wp2
      repeat (go_quiet (fail); try go_wp2)
      go_meet
      case rel => exact ⟨_, (true), (by first | rfl | (simp; done) | (simp [*]; done)), H', ⟨by first | omega | exact Nat.le_refl _⟩, ⟨by repeat (first | (with_reducible first | exact HI0.out | apply IsS64.alloc | apply IsS64.drewN | apply IsS64.drew | apply IsS64.set_1) | exact HI0.out)⟩, ⟨by repeat (first | (with_reducible first | exact HK.out | apply KeepBut.set_ | apply keep_drewN | apply keep_drew | apply keep_alloc) | exact HK.out)⟩, ⟨by repeat (first | (with_reducible first | exact HB.out | apply below_alloc | apply pw_below_drewN | apply below_drew1 | refine below_set ?_ (IsS64.ge HI0.out)) | exact HB.out)⟩⟩
    rw [if_neg c5] at H
    have c5b0 : decide (a1 < 1) = false := decide_eq_false c5
    clear c5
    (first | rw [c5b0] | (simp only [i64_w, i32_w]; rw [c5b0]) | skip)
    have H' := Aside0.mk H
    clear H
    obtain ⟨ASz6_0, cSz6_0, HGz6, hgz6, HSz6_0⟩ := HI0.out
    have hcz6_0 := cellS64_0 HGz6
    have hcz6_1 := cellS64_1 HGz6
    have hfz6_1 := blk_frozen HGz6 1
    clear HGz6 hgz6
    go_wp2
    repeat (go_quiet (fail); try go_wp2)
    go_meet
    case rel => exact ⟨_, (((s0_0.length : Int) == 0)), (by first | rfl | (simp; done) | (simp [*]; done)), H', ⟨by first | omega | exact Nat.le_refl _⟩, ⟨by repeat (first | (with_reducible first | exact HI0.out | apply IsS64.alloc | apply IsS64.drewN | apply IsS64.drew | apply IsS64.set_1) | exact HI0.out)⟩, ⟨by repeat (first | (with_reducible first | exact HK.out | apply KeepBut.set_ | apply keep_drewN | apply keep_drew | apply keep_alloc) | exact HK.out)⟩, ⟨by repeat (first | (with_reducible first | exact HB.out | apply below_alloc | apply pw_below_drewN | apply below_drew1 | refine below_set ?_ (IsS64.ge HI0.out)) | exact HB.out)⟩⟩
  case rest =>
    clear HC3
    try clear p2
    try clear c4
    try clear c5
    try clear c5b0
    try clear p6
    try clear hcz4_0
    try clear hcz4_1
    try clear hcz6_0
    try clear hcz6_1
    try clear hfz4_1
    try clear hfz6_1
    obtain ⟨kq, x24_2, rfl, HA, HJ2, HI0, HK, HB⟩ := hcut
    cases kq with
    | zero => exact absurd HA.out (by simp [spec_l6Rd_pick.j0])
    | succ kj2 =>
      have H := HA.out
      clear HA
      simp only [spec_l6Rd_pick.j0] at H
      by_cases c7 : x24_2 = true
      · subst c7
        have H1 : (some (0, (wrap64 (s0_1 + 1)))) = some (r1, r2) := by rw [if_pos rfl] at H; exact H
        clear H
        have H := H1
        clear H1
        simp only [Option.some.injEq, Prod.mk.injEq] at H
        obtain ⟨rfl, rfl⟩ := H
        go_wp2
        repeat (go_quiet (fail); try go_wp2)
        go_ret
        exact ⟨by first | rfl | (simp [errW_none, errW_some] <;> rfl) | (simp [*, errW_none, errW_some] <;> rfl), by repeat (first | (with_reducible first | exact HI0.out | apply IsS64.alloc | apply IsS64.drewN | apply IsS64.drew | apply IsS64.set_1) | exact HI0.out), by repeat (first | (with_reducible first | exact HB.out | apply below_alloc | apply pw_below_drewN | apply below_drew1 | refine below_set ?_ (IsS64.ge HI0.out)) | exact HB.out), by repeat (first | (with_reducible first | exact HK.out | apply KeepBut.set_ | apply keep_drewN | apply keep_drew | apply keep_alloc) | exact HK.out)⟩
      replace c7 := Bool.eq_false_iff.mpr c7
      subst c7
      have H1 : (if (wrap64 ((wrap64 (s0_1 + 1)) - 1)) < (s0_0.length : Int) then (if 0 ≤ (wrap64 ((wrap64 (s0_1 + 1)) - 1)) then (if a1 = 0 then (none) else (some (Int.tmod (wrap64 (rd s0_0 (wrap64 ((wrap64 (s0_1 + 1)) - 1)))) a1, (wrap64 (s0_1 + 1))))) else (none)) else (if (s0_0.length : Int) = 0 then (none) else (if 0 ≤ (Int.tmod (wrap64 ((wrap64 (s0_1 + 1)) - 1)) (s0_0.length : Int)) then (if (Int.tmod (wrap64 ((wrap64 (s0_1 + 1)) - 1)) (s0_0.length : Int)) < (s0_0.length : Int) then (if 0 ≤ (Int.tmod (wrap64 ((wrap64 ((wrap64 ((wrap64 (s0_1 + 1)) - 1)) * 7)) + 3)) (s0_0.length : Int)) then (if (Int.tmod (wrap64 ((wrap64 ((wrap64 ((wrap64 (s0_1 + 1)) - 1)) * 7)) + 3)) (s0_0.length : Int)) < (s0_0.length : Int) then (if a1 = 0 then (none) else (some (Int.tmod (Go.bits .xor .i64 (wrap64 ((wrap64 ((wrap64 ((wrap64 ((wrap64 (rd s0_0 (Int.tmod (wrap64 ((wrap64 (s0_1 + 1)) - 1)) (s0_0.length : Int)))) * 131)) + (wrap64 ((wrap64 (rd s0_0 (Int.tmod (wrap64 ((wrap64 ((wrap64 ((wrap64 (s0_1 + 1)) - 1)) * 7)) + 3)) (s0_0.length : Int)))) * 1117)))) + (wrap64 ((wrap64 ((wrap64 (s0_1 + 1)) - 1)) * 29)))) + (wrap64 ((wrap64 (Int.tdiv (wrap64 ((wrap64 (s0_1 + 1)) - 1)) (s0_0.length : Int))) * 53)))) (wrap64 (Int.tdiv (wrap64 ((wrap64 ((wrap64 ((wrap64 ((wrap64 (rd s0_0 (Int.tmod (wrap64 ((wrap64 (s0_1 + 1)) - 1)) (s0_0.length : Int)))) * 131)) + (wrap64 ((wrap64 (rd s0_0 (Int.tmod (wrap64 ((wrap64 ((wrap64 ((wrap64 (s0_1 + 1)) - 1)) * 7)) + 3)) (s0_0.length : Int)))) * 1117)))) + (wrap64 ((wrap64 ((wrap64 (s0_1 + 1)) - 1)) * 29)))) + (wrap64 ((wrap64 (Int.tdiv (wrap64 ((wrap64 (s0_1 + 1)) - 1)) (s0_0.length : Int))) * 53)))) 64))) a1, (wrap64 (s0_1 + 1))))) else (none)) else (none)) else (none)) else (none)))) = some (r1, r2) := by rw [if_neg (show ¬ (false = true) by decide)] at H; exact H
      clear H
      have H := H1
      clear H1
      by_cases c8 : (wrap64 ((wrap64 (s0_1 + 1)) - 1)) < (s0_0.length : Int)
      · rw [if_pos c8] at H
        have c8b0 : decide ((wrap64 ((wrap64 (s0_1 + 1)) - 1)) < (s0_0.length : Int)) = true := decide_eq_true c8
        clear c8
        obtain ⟨ji9, hji9⟩ : ∃ j_ : Int, (wrap64 ((wrap64 (s0_1 + 1)) - 1)) = j_ := ⟨_, rfl⟩
        replace H : (if 0 ≤ (ji9) then (if a1 = 0 then (none) else (some (Int.tmod (wrap64 (rd s0_0 (ji9))) a1, (wrap64 (s0_1 + 1))))) else (none)) = some (r1, r2) := by first | (rw [hji9] at H; exact H) | (simp only [hji9] at H ⊢; exact H)
        (try rw [hji9] at c8b0)
        have hji9w : (IntKind.i64.wrap ((wrap64 (s0_1 + 1)) - 1)) = ji9 := (i64_w _).trans hji9
        by_cases c10 : 0 ≤ (ji9)
        · rw [if_pos c10] at H
          have c10b0 : decide (0 ≤ (ji9)) = true := decide_eq_true c10
          clear c10
          by_cases c11 : a1 = 0
          · rw [if_pos c11] at H
            exact absurd H (by simp)
          rw [if_neg c11] at H
          have c11b0 : (a1 == 0) = false := beq_eq_false_iff_ne.mpr c11
          have c11b1 : (a1 != 0) = true := bne_iff_ne.mpr c11
          simp only [Option.some.injEq, Prod.mk.injEq] at H
          obtain ⟨rfl, rfl⟩ := H
          obtain ⟨ASz12_0, cSz12_0, HGz12, hgz12, HSz12_0⟩ := HI0.out
          have hcz12_0 := cellS64_0 HGz12
          have hcz12_1 := cellS64_1 HGz12
          have hfz12_1 := blk_frozen HGz12 1
          clear HGz12 hgz12
          have p167 : 0 ≤ ((ji9) : Int) := of_decide_eq_true (by first | (with_reducible assumption) | assumption)
          have q167 : (ji9) < (s0_0.length : Int) := of_decide_eq_true (by first | (with_reducible assumption) | assumption)
          obtain ⟨ad167, e167, hx167_0⟩ := Kd.at_int HSz12_0 (ji9) p167 q167
          cases e167
          replace hx167_0 := pw_cell_below HB.out hx167_0
          replace p167 := eq_true p167
          replace q167 := eq_true q167
          go_wp2
          repeat (go_quiet (fail); try go_wp2)
          go_ret
          exact ⟨by first | rfl | (simp [errW_none, errW_some] <;> rfl) | (simp only [← hji9]; first | rfl | (simp [errW_none, errW_some] <;> rfl)) | (simp [*, errW_none, errW_some] <;> rfl), by repeat (first | (with_reducible first | exact HI0.out | apply IsS64.alloc | apply IsS64.drewN | apply IsS64.drew | apply IsS64.set_1) | exact HI0.out), by repeat (first | (with_reducible first | exact HB.out | apply below_alloc | apply pw_below_drewN | apply below_drew1 | refine below_set ?_ (IsS64.ge HI0.out)) | exact HB.out), by repeat (first | (with_reducible first | exact HK.out | apply KeepBut.set_ | apply keep_drewN | apply keep_drew | apply keep_alloc) | exact HK.out)⟩
        rw [if_neg c10] at H
        exact absurd H (by simp)
      rw [if_neg c8] at H
      have c8b0 : decide ((wrap64 ((wrap64 (s0_1 + 1)) - 1)) < (s0_0.length : Int)) = false := decide_eq_false c8
      clear c8
      by_cases c13 : (s0_0.length : Int) = 0
      · rw [if_pos c13] at H
        exact absurd H (by simp)
      rw [if_neg c13] at H
      have c13b0 : ((s0_0.length : Int) == 0) = false := beq_eq_false_iff_ne.mpr c13
      have c13b1 : ((s0_0.length : Int) != 0) = true := bne_iff_ne.mpr c13
      have c13b2 : ¬ (s0_0 = []) := fun h_ => c13 (by rw [h_]; rfl)
      obtain ⟨ji14, hji14⟩ : ∃ j_ : Int, (Int.tmod (wrap64 ((wrap64 (s0_1 + 1)) - 1)) (s0_0.length : Int)) = j_ := ⟨_, rfl⟩
      replace H : (if 0 ≤ (ji14) then (if (ji14) < (s0_0.length : Int) then (if 0 ≤ (Int.tmod (wrap64 ((wrap64 ((wrap64 ((wrap64 (s0_1 + 1)) - 1)) * 7)) + 3)) (s0_0.length : Int)) then (if (Int.tmod (wrap64 ((wrap64 ((wrap64 ((wrap64 (s0_1 + 1)) - 1)) * 7)) + 3)) (s0_0.length : Int)) < (s0_0.length : Int) then (if a1 = 0 then (none) else (some (Int.tmod (Go.bits .xor .i64 (wrap64 ((wrap64 ((wrap64 ((wrap64 ((wrap64 (rd s0_0 (ji14))) * 131)) + (wrap64 ((wrap64 (rd s0_0 (Int.tmod (wrap64 ((wrap64 ((wrap64 ((wrap64 (s0_1 + 1)) - 1)) * 7)) + 3)) (s0_0.length : Int)))) * 1117)))) + (wrap64 ((wrap64 ((wrap64 (s0_1 + 1)) - 1)) * 29)))) + (wrap64 ((wrap64 (Int.tdiv (wrap64 ((wrap64 (s0_1 + 1)) - 1)) (s0_0.length : Int))) * 53)))) (wrap64 (Int.tdiv (wrap64 ((wrap64 ((wrap64 ((wrap64 ((wrap64 (rd s0_0 (ji14))) * 131)) + (wrap64 ((wrap64 (rd s0_0 (Int.tmod (wrap64 ((wrap64 ((wrap64 ((wrap64 (s0_1 + 1)) - 1)) * 7)) + 3)) (s0_0.length : Int)))) * 1117)))) + (wrap64 ((wrap64 ((wrap64 (s0_1 + 1)) - 1)) * 29)))) + (wrap64 ((wrap64 (Int.tdiv (wrap64 ((wrap64 (s0_1 + 1)) - 1)) (s0_0.length : Int))) * 53)))) 64))) a1, (wrap64 (s0_1 + 1))))) else (none)) else (none)) else (none)) else (none)) = some (r1, r2) := by first | (rw [hji14] at H; exact H) | (simp only [hji14] at H ⊢; exact H)
      by_cases c15 : 0 ≤ (ji14)
      · rw [if_pos c15] at H
        have c15b0 : decide (0 ≤ (ji14)) = true := decide_eq_true c15
        clear c15
        by_cases c16 : (ji14) < (s0_0.length : Int)
        · rw [if_pos c16] at H
          have c16b0 : decide ((ji14) < (s0_0.length : Int)) = true := decide_eq_true c16
          clear c16
          obtain ⟨ji17, hji17⟩ : ∃ j_ : Int, (Int.tmod (wrap64 ((wrap64 ((wrap64 ((wrap64 (s0_1 + 1)) - 1)) * 7)) + 3)) (s0_0.length : Int)) = j_ := ⟨_, rfl⟩
          replace H : (if 0 ≤ (ji17) then (if (ji17) < (s0_0.length : Int) then (if a1 = 0 then (none) else (some (Int.tmod (Go.bits .xor .i64 (wrap64 ((wrap64 ((wrap64 ((wrap64 ((wrap64 (rd s0_0 (ji14))) * 131)) + (wrap64 ((wrap64 (rd s0_0 (ji17))) * 1117)))) + (wrap64 ((wrap64 ((wrap64 (s0_1 + 1)) - 1)) * 29)))) + (wrap64 ((wrap64 (Int.tdiv (wrap64 ((wrap64 (s0_1 + 1)) - 1)) (s0_0.length : Int))) * 53)))) (wrap64 (Int.tdiv (wrap64 ((wrap64 ((wrap64 ((wrap64 ((wrap64 (rd s0_0 (ji14))) * 131)) + (wrap64 ((wrap64 (rd s0_0 (ji17))) * 1117)))) + (wrap64 ((wrap64 ((wrap64 (s0_1 + 1)) - 1)) * 29)))) + (wrap64 ((wrap64 (Int.tdiv (wrap64 ((wrap64 (s0_1 + 1)) - 1)) (s0_0.length : Int))) * 53)))) 64))) a1, (wrap64 (s0_1 + 1))))) else (none)) else (none)) = some (r1, r2) := by first | (rw [hji17] at H; exact H) | (simp only [hji17] at H ⊢; exact H)
          by_cases c18 : 0 ≤ (ji17)
          · rw [if_pos c18] at H
            have c18b0 : decide (0 ≤ (ji17)) = true := decide_eq_true c18
            clear c18
            by_cases c19 : (ji17) < (s0_0.length : Int)
            · rw [if_pos c19] at H
              have c19b0 : decide ((ji17) < (s0_0.length : Int)) = true := decide_eq_true c19
              clear c19
              by_cases c20 : a1 = 0
              · rw [if_pos c20] at H
                exact absurd H (by simp)
              rw [if_neg c20] at H
              have c20b0 : (a1 == 0) = false := beq_eq_false_iff_ne.mpr c20
              have c20b1 : (a1 != 0) = true := bne_iff_ne.mpr c20
              simp only [Option.some.injEq, Prod.mk.injEq] at H
              obtain ⟨rfl, rfl⟩ := H
              obtain ⟨ASz21_0, cSz21_0, HGz21, hgz21, HSz21_0⟩ := HI0.out
              have hcz21_0 := cellS64_0 HGz21
              have hcz21_1 := cellS64_1 HGz21
              have hfz21_1 := blk_frozen HGz21 1
              clear HGz21 hgz21
              have p168 : 0 ≤ ((ji14) : Int) := of_decide_eq_true (by first | (with_reducible assumption) | assumption)
              have q168 : (ji14) < (s0_0.length : Int) := of_decide_eq_true (by first | (with_reducible assumption) | assumption)
              obtain ⟨ad168, e168, hx168_0⟩ := Kd.at_int HSz21_0 (ji14) p168 q168
              cases e168
              replace hx168_0 := pw_cell_below HB.out hx168_0
              replace p168 := eq_true p168
              replace q168 := eq_true q168
              have p169 : 0 ≤ ((ji17) : Int) := of_decide_eq_true (by first | (with_reducible assumption) | assumption)
              have q169 : (ji17) < (s0_0.length : Int) := of_decide_eq_true (by first | (with_reducible assumption) | assumption)
              obtain ⟨ad169, e169, hx169_0⟩ := Kd.at_int HSz21_0 (ji17) p169 q169
              obtain rfl : ad168 = ad169 := (by injection e169)
              replace hx169_0 := pw_cell_below HB.out hx169_0
              replace p169 := eq_true p169
              replace q169 := eq_true q169
              go_wp2
              repeat (go_quiet (fail); try go_wp2)
              go_ret
              exact ⟨by first | rfl | (simp [errW_none, errW_some] <;> rfl) | (simp only [← hji14, ← hji17]; first | rfl | (simp [errW_none, errW_some] <;> rfl)) | (simp [*, errW_none, errW_some] <;> rfl), by repeat (first | (with_reducible first | exact HI0.out | apply IsS64.alloc | apply IsS64.drewN | apply IsS64.drew | apply IsS64.set_1) | exact HI0.out), by repeat (first | (with_reducible first | exact HB.out | apply below_alloc | apply pw_below_drewN | apply below_drew1 | refine below_set ?_ (IsS64.ge HI0.out)) | exact HB.out), by repeat (first | (with_reducible first | exact HK.out | apply KeepBut.set_ | apply keep_drewN | apply keep_drew | apply keep_alloc) | exact HK.out)⟩
            rw [if_neg c19] at H
            exact absurd H (by simp)
          rw [if_neg c18] at H
          exact absurd H (by simp)
        rw [if_neg c16] at H
        exact absurd H (by simp)
      rw [if_neg c15] at H
      exact absurd H (by simp)

/-! ### spec_l92Triple: function 52 -/
def spec_l92Triple.j0 : Nat → Int → Int → Int → Bool → List Int → Int → Option (Int × Int × Int × Int)
  | 0, _, _, _, _, _, _ => none
  | k + 1, x6, x7, x8, x30, x1000, x1001 => if x30 = true then (some (x6, x7, x8, x1001)) else ((some (([3, 4, 6, 5, (-3)] : List Int) : List Int)).bind fun y180 => ((spec_l6Rd_pick.f k x1000 x1001 5).bind fun bt183 => (if 0 ≤ bt183.1 then (if bt183.1 < (y180.length : Int) then ((some (([4, 3, 8, 12] : List Int) : List Int)).bind fun y186 => ((spec_l6Rd_pick.f k x1000 bt183.2 4).bind fun bt189 => (if 0 ≤ bt189.1 then (if bt189.1 < (y186.length : Int) then ((some (([5, 10, 13] : List Int) : List Int)).bind fun y192 => ((spec_l6Rd_pick.f k x1000 bt189.2 3).bind fun bt195 => (if 0 ≤ bt195.1 then (if bt195.1 < (y192.length : Int) then (some (rd y180 bt183.1, rd y186 bt189.1, rd y192 bt195.1, bt195.2)) else (none)) else (none)))) else (none)) else (none)))) else (none)) else (none))))
def spec_l92Triple.f (k : Nat) (s0_0 : List Int) (s0_1 : Int) : Option (Int × Int × Int × Int) := (spec_l6Rd_pick.f k s0_0 s0_1 12).bind fun bt170 => ((spec_l6Rd_pick.f k s0_0 bt170.2 (wrap64 ((wrap64 (2 + bt170.1)) - 1))).bind fun bt172 => ((spec_TripleMake.f k (wrap64 (2 + bt170.1)) (wrap64 (1 + bt172.1))).bind fun bt174 => (if bt174.2.2.2 = true then ((spec_l6Rd_pick.f k s0_0 bt172.2 12).bind fun bt178 => (spec_l92Triple.j0 k bt174.1 bt174.2.1 bt174.2.2.1 (decide (bt178.1 > 0)) s0_0 bt178.2)) else (spec_l92Triple.j0 k bt174.1 bt174.2.1 bt174.2.2.1 false s0_0 bt172.2))))
theorem spec_l92Triple.mono_l : ∀ k, (∀ y0 y1 y2 y3 y4 y5, LeO (spec_l92Triple.j0 k y0 y1 y2 y3 y4 y5) (spec_l92Triple.j0 (k + 1) y0 y1 y2 y3 y4 y5))
  | 0 => fun _ _ _ _ _ _ r h => by simp [spec_l92Triple.j0] at h
  | k + 1 => by
    have ih0 := spec_l92Triple.mono_l k
    · intro y0 y1 y2 y3 y4 y5
      unfold spec_l92Triple.j0
      repeat' first
      | (with_reducible exact ih0 _ _ _ _ _ _)
      | (with_reducible exact spec_TripleMake.mono _ _ _)
      | (with_reducible exact spec_l6Rd_pick.mono _ _ _ _)
      | (with_reducible exact LeO.refl _)
      | (with_reducible exact LeO.none _)
      | (with_reducible refine LeO.ite ?_ ?_)
      | (with_reducible refine LeO.bind ?_ (fun _ => ?_))
      | exact ih0 _ _ _ _ _ _
      | exact spec_TripleMake.mono _ _ _
      | exact spec_l6Rd_pick.mono _ _ _ _
      | exact LeO.none _
      | refine LeO.ite ?_ ?_
      | refine LeO.bind ?_ (fun _ => ?_)
theorem spec_l92Triple.mono : ∀ a0 a1 k, LeO (spec_l92Triple.f k a0 a1) (spec_l92Triple.f (k + 1) a0 a1) := by
  intro a0 a1 k
  have ih0 := spec_l92Triple.mono_l k
  unfold spec_l92Triple.f
  repeat' first
      | (with_reducible exact ih0 _ _ _ _ _ _)
      | (with_reducible exact spec_TripleMake.mono _ _ _)
      | (with_reducible exact spec_l6Rd_pick.mono _ _ _ _)
      | (with_reducible exact LeO.refl _)
      | (with_reducible exact LeO.none _)
      | (with_reducible refine LeO.ite ?_ ?_)
      | (with_reducible refine LeO.bind ?_ (fun _ => ?_))
      | exact ih0 _ _ _ _ _ _
      | exact spec_TripleMake.mono _ _ _
      | exact spec_l6Rd_pick.mono _ _ _ _
      | exact LeO.none _
      | refine LeO.ite ?_ ?_
      | refine LeO.bind ?_ (fun _ => ?_)
def spec_l92Triple.T5 : Bool × List (List Nat × List Nat) := (true, [([], []), ([], []), ([1], [1]), ([0, 2], [0, 2]), ([3], [3]), ([], []), ([], []), ([6, 2], [6]), ([5, 7], [5, 7]), ([8], [8]), ([], []), ([], []), ([11, 7], [11]), ([10, 12], [10, 12]), ([13], [13]), ([4, 12, 0, 1, 2, 3, 4], [4]), ([9, 15, 0, 1, 2, 3, 4, 5, 6, 7, 8, 9, 15], [9]), ([14, 16, 0, 1, 2, 3, 4, 5, 6, 7, 8, 9, 10, 11, 12, 13, 14, 15, 16], [14])])
def spec_l92Triple.B5 : List Nat := [0, 0, 2, 7, 15, 0, 0, 70, 230, 486, 0, 0, 2246, 7366, 15558, 6367, 39935, 131071]
theorem spec_l92Triple.tab5 : rtab .any (opsOf Try.f52 5) = spec_l92Triple.T5 := by kernel_rfl
theorem spec_l92Triple.bits5 : waitsOk spec_l92Triple.T5.2 spec_l92Triple.B5 = true := by kernel_rfl
set_option maxHeartbeats 8000000 in
set_option maxRecDepth 100000 in
theorem spec_l92Triple.calls (k : Nat) (g : Nat) (s0_0 : List Int) (s0_1 : Int) (r1 : Int) (r2 : Int) (r3 : Int) (r4 : Int) (w0 w : World) (hI : IsS64 w0 w g s0_0 s0_1) (hB : Below w0.heap.size w0 w) (h : spec_l92Triple.f k s0_0 s0_1 = some (r1, r2, r3, r4)) :
    Calls Try.prog 52 #[.pointer (some ⟨g, 0, none⟩)] w fun e w' => e = .returned (.tuple #[.int .i64 r1, .int .i64 r2, .int .i64 r3]) ∧ IsS64 w0 w' g s0_0 r4 ∧ Below w0.heap.size w0 w' ∧ KeepBut w w' g none := by
  have HI0 := Aside0.mk hI
  have HK := Aside0.mk (KeepBut.refl w g none)
  have HL := Aside0.mk hB.size
  clear hI
  have HW0 := Aside0.mk hB.size
  have HB := Aside0.mk hB
  clear hB
  have H : ((spec_l6Rd_pick.f k s0_0 s0_1 12).bind fun bt170 => ((spec_l6Rd_pick.f k s0_0 bt170.2 (wrap64 ((wrap64 (2 + bt170.1)) - 1))).bind fun bt172 => ((spec_TripleMake.f k (wrap64 (2 + bt170.1)) (wrap64 (1 + bt172.1))).bind fun bt174 => (if bt174.2.2.2 = true then ((spec_l6Rd_pick.f k s0_0 bt172.2 12).bind fun bt178 => (spec_l92Triple.j0 k bt174.1 bt174.2.1 bt174.2.2.1 (decide (bt178.1 > 0)) s0_0 bt178.2)) else (spec_l92Triple.j0 k bt174.1 bt174.2.1 bt174.2.2.1 false s0_0 bt172.2))))) = some (r1, r2, r3, r4) := h
  clear h
  replace H := Option.bind_eq_some_iff.mp H
  obtain ⟨⟨t170, t171⟩, A20, H⟩ := H
  replace H : ((spec_l6Rd_pick.f k s0_0 t171 (wrap64 ((wrap64 (2 + t170)) - 1))).bind fun bt172 => ((spec_TripleMake.f k (wrap64 (2 + t170)) (wrap64 (1 + bt172.1))).bind fun bt174 => (if bt174.2.2.2 = true then ((spec_l6Rd_pick.f k s0_0 bt172.2 12).bind fun bt178 => (spec_l92Triple.j0 k bt174.1 bt174.2.1 bt174.2.2.1 (decide (bt178.1 > 0)) s0_0 bt178.2)) else (spec_l92Triple.j0 k bt174.1 bt174.2.1 bt174.2.2.1 false s0_0 bt172.2)))) = some (r1, r2, r3, r4) := H
  have A2 := Aside0.mk A20
  clear A20
  replace H := Option.bind_eq_some_iff.mp H
  obtain ⟨⟨t172, t173⟩, A30, H⟩ := H
  replace H : ((spec_TripleMake.f k (wrap64 (2 + t170)) (wrap64 (1 + t172))).bind fun bt174 => (if bt174.2.2.2 = true then ((spec_l6Rd_pick.f k s0_0 t173 12).bind fun bt178 => (spec_l92Triple.j0 k bt174.1 bt174.2.1 bt174.2.2.1 (decide (bt178.1 > 0)) s0_0 bt178.2)) else (spec_l92Triple.j0 k bt174.1 bt174.2.1 bt174.2.2.1 false s0_0 t173))) = some (r1, r2, r3, r4) := H
  have A3 := Aside0.mk A30
  clear A30
  replace H := Option.bind_eq_some_iff.mp H
  obtain ⟨⟨t174, t175, t176, t177⟩, A40, H⟩ := H
  replace H : (if t177 = true then ((spec_l6Rd_pick.f k s0_0 t173 12).bind fun bt178 => (spec_l92Triple.j0 k t174 t175 t176 (decide (bt178.1 > 0)) s0_0 bt178.2)) else (spec_l92Triple.j0 k t174 t175 t176 false s0_0 t173)) = some (r1, r2, r3, r4) := H
  have A4 := Aside0.mk A40
  clear A40
  have HC5 := Aside0.mk H
  clear H
  go_enter Try.func52, Try.ntmps52
  go_upto_region 3 with (first | ((with_reducible refine gate_callee (f := 49) rfl ?_); refine goesL_ (some 11) rfl rfl Try.func49 (by kernel_rfl) rfl #[.pointer (some ⟨g, 0, none⟩), .int .i64 12] rfl (by (try simp only [List.map_toArray, List.map_cons, List.map_nil]); first | done | rfl | (simp only [List.length_drop, List.length_take]; rfl)) ?_; (with_reducible refine (spec_l6Rd_pick.calls k g s0_0 s0_1 12 t170 t171 w0 _ ?side1 ?side2 A2.out).mono ?_); (case side1 => repeat (first | (with_reducible first | exact HI0.out | apply IsS64.alloc | apply IsS64.drewN | apply IsS64.drew | apply IsS64.set_1) | exact HI0.out)); (case side2 => repeat (first | (with_reducible first | exact HB.out | apply below_alloc | apply pw_below_drewN | apply below_drew1 | refine below_set ?_ (IsS64.ge HI0.out)) | exact HB.out)); rintro e w6 ⟨rfl, hi, hb, hk⟩; refine ⟨_, rfl, ?_⟩; have n0_ := Aside0.mk (KeepBut.trans (by repeat (first | (with_reducible first | exact HK.out | apply KeepBut.set_ | apply keep_drewN | apply keep_drew | apply keep_alloc) | exact HK.out)) hk (.inl rfl)); have n1_ := Aside0.mk (hb); have n2_ := Aside0.mk (hi); clear HK; try clear HB; clear HI0; have HK := n0_; have HB := n1_; have HI0 := n2_; clear n0_ n1_ n2_; (try clear hb); (try clear hb2); (try clear hk); (try clear hi)) | ((with_reducible refine gate_callee (f := 49) rfl ?_); refine goesL_ (some 18) rfl rfl Try.func49 (by kernel_rfl) rfl #[.pointer (some ⟨g, 0, none⟩), .int .i64 (wrap64 ((wrap64 (2 + t170)) - 1))] rfl (by (try simp only [List.map_toArray, List.map_cons, List.map_nil]); first | done | rfl | (simp only [List.length_drop, List.length_take]; rfl)) ?_; (with_reducible refine (spec_l6Rd_pick.calls k g s0_0 t171 (wrap64 ((wrap64 (2 + t170)) - 1)) t172 t173 w0 _ ?side1 ?side2 A3.out).mono ?_); (case side1 => repeat (first | (with_reducible first | exact HI0.out | apply IsS64.alloc | apply IsS64.drewN | apply IsS64.drew | apply IsS64.set_1) | exact HI0.out)); (case side2 => repeat (first | (with_reducible first | exact HB.out | apply below_alloc | apply pw_below_drewN | apply below_drew1 | refine below_set ?_ (IsS64.ge HI0.out)) | exact HB.out)); rintro e w7 ⟨rfl, hi, hb, hk⟩; refine ⟨_, rfl, ?_⟩; have n0_ := Aside0.mk (KeepBut.trans (by repeat (first | (with_reducible first | exact HK.out | apply KeepBut.set_ | apply keep_drewN | apply keep_drew | apply keep_alloc) | exact HK.out)) hk (.inl rfl)); have n1_ := Aside0.mk (hb); have n2_ := Aside0.mk (hi); clear HK; try clear HB; clear HI0; have HK := n0_; have HB := n1_; have HI0 := n2_; clear n0_ n1_ n2_; (try clear hb); (try clear hb2); (try clear hk); (try clear hi)) | ((with_reducible refine gate_callee (f := 15) rfl ?_); refine goesL_ (some 20) rfl rfl Try.func15 (by kernel_rfl) rfl #[.int .i64 (wrap64 (2 + t170)), .int .i64 (wrap64 (1 + t172))] rfl (by (try simp only [List.map_toArray, List.map_cons, List.map_nil]); first | done | rfl | (simp only [List.length_drop, List.length_take]; rfl)) ?_; (with_reducible refine (spec_TripleMake.calls k (wrap64 (2 + t170)) (wrap64 (1 + t172)) t174 t175 t176 t177 _ A4.out).mono ?_); rintro e w8 ⟨rfl, hb⟩; refine ⟨_, rfl, ?_⟩; have n0_ := Aside0.mk (IsS64.below (by repeat (first | (with_reducible first | exact HI0.out | apply IsS64.alloc | apply IsS64.drewN | apply IsS64.drew | apply IsS64.set_1) | exact HI0.out)) hb); have n1_ := Aside0.mk (KeepBut.trans (by repeat (first | (with_reducible first | exact HK.out | apply KeepBut.set_ | apply keep_drewN | apply keep_drew | apply keep_alloc) | exact HK.out)) (KeepBut.of_below hb g none) (.inl rfl)); have n2_ := Aside0.mk (below_step (by repeat (first | (with_reducible first | exact HB.out | apply below_alloc | apply pw_below_drewN | apply below_drew1 | refine below_set ?_ (IsS64.ge HI0.out)) | exact HB.out)) hb); clear HI0; clear HK; try clear HB; have HI0 := n0_; have HK := n1_; have HB := n2_; clear n0_ n1_ n2_; (try clear hb); (try clear hb2); (try clear hk); (try clear hi)))
  (try simp only [Act.put, List.setIfInBounds_toArray, List.set_cons_zero, List.set_cons_succ])
  go_cut [30] (fun v30 wc => ∃ (kq : Nat) (x30_4 : Bool) (x1001_4 : Int), v30 = .bool x30_4 ∧ Aside0 (spec_l92Triple.j0 kq t174 t175 t176 x30_4 s0_0 x1001_4 = some (r1, r2, r3, r4)) ∧ Aside0 (kq ≤ k) ∧ Aside0 (IsS64 w0 wc g s0_0 x1001_4) ∧ Aside0 (KeepBut w wc g none) ∧ Aside0 (Below w0.heap.size w0 wc))
  case first =>
    have H := HC5.out
    clear HC5
    by_cases c9 : t177 = true
    · subst c9
      have H1 : ((spec_l6Rd_pick.f k s0_0 t173 12).bind fun bt178 => (spec_l92Triple.j0 k t174 t175 t176 (decide (bt178.1 > 0)) s0_0 bt178.2)) = some (r1, r2, r3, r4) := by rw [if_pos rfl] at H; exact H
      clear H
      have H := H1
      clear H1
      replace H := Option.bind_eq_some_iff.mp H
      obtain ⟨⟨t178, t179⟩, A100, H⟩ := H
      replace H : (spec_l92Triple.j0 k t174 t175 t176 (decide (t178 > 0)) s0_0 t179) = some (r1, r2, r3, r4) := H
      have A10 := Aside0.mk A100
      clear A100
      have H' := Aside0.mk H
      clear H
      go_wp2_with (first | (go_at_call 49; (with_reducible refine (spec_l6Rd_pick.calls k g s0_0 t173 12 t178 t179 w0 _ ?side1 ?side2 A10.out).mono ?_); (case side1 => repeat (first | (with_reducible first | exact HI0.out | apply IsS64.alloc | apply IsS64.drewN | apply IsS64.drew | apply IsS64.set_1) | exact HI0.out)); (case side2 => repeat (first | (with_reducible first | exact HB.out | apply below_alloc | apply pw_below_drewN | apply below_drew1 | refine below_set ?_ (IsS64.ge HI0.out)) | exact HB.out)); rintro e w11 ⟨rfl, hi, hb, hk⟩; have n0_ := Aside0.mk (KeepBut.trans (by repeat (first | (with_reducible first | exact HK.out | apply KeepBut.set_ | apply keep_drewN | apply keep_drew | apply keep_alloc) | exact HK.out)) hk (.inl rfl)); have n1_ := Aside0.mk (hb); have n2_ := Aside0.mk (hi); clear HK; try clear HB; clear HI0; have HK := n0_; have HB := n1_; have HI0 := n2_; clear n0_ n1_ n2_; (try clear hb); (try clear hb2); (try clear hk); (try clear hi)))
      go_meet
      case rel => exact ⟨_, (decide (t178 > 0)), (t179), (by first | rfl | (simp; done) | (simp [*]; done)), H', ⟨by first | omega | exact Nat.le_refl _⟩, ⟨by repeat (first | (with_reducible first | exact HI0.out | apply IsS64.alloc | apply IsS64.drewN | apply IsS64.drew | apply IsS64.set_1) | exact HI0.out)⟩, ⟨by repeat (first | (with_reducible first | exact HK.out | apply KeepBut.set_ | apply keep_drewN | apply keep_drew | apply keep_alloc) | exact HK.out)⟩, ⟨by repeat (first | (with_reducible first | exact HB.out | apply below_alloc | apply pw_below_drewN | apply below_drew1 | refine below_set ?_ (IsS64.ge HI0.out)) | exact HB.out)⟩⟩
    replace c9 := Bool.eq_false_iff.mpr c9
    subst c9
    have H1 : (spec_l92Triple.j0 k t174 t175 t176 false s0_0 t173) = some (r1, r2, r3, r4) := by rw [if_neg (show ¬ (false = true) by decide)] at H; exact H
    clear H
    have H := H1
    clear H1
    have H' := Aside0.mk H
    clear H
    go_wp2
    go_meet
    case rel => exact ⟨_, (false), (t173), (by first | rfl | (simp; done) | (simp [*]; done)), H', ⟨by first | omega | exact Nat.le_refl _⟩, ⟨by repeat (first | (with_reducible first | exact HI0.out | apply IsS64.alloc | apply IsS64.drewN | apply IsS64.drew | apply IsS64.set_1) | exact HI0.out)⟩, ⟨by repeat (first | (with_reducible first | exact HK.out | apply KeepBut.set_ | apply keep_drewN | apply keep_drew | apply keep_alloc) | exact HK.out)⟩, ⟨by repeat (first | (with_reducible first | exact HB.out | apply below_alloc | apply pw_below_drewN | apply below_drew1 | refine below_set ?_ (IsS64.ge HI0.out)) | exact HB.out)⟩⟩
  case rest =>
    clear HC5
    try clear c1
    try clear p2
    try clear c4
    try clear c5
    try clear p6
    try clear c9
    obtain ⟨kq, x30_4, x1001_4, rfl, HA, HJ4, HI0, HK, HB⟩ := hcut
    cases kq with
    | zero => exact absurd HA.out (by simp [spec_l92Triple.j0])
    | succ kj4 =>
      have H := HA.out
      clear HA
      simp only [spec_l92Triple.j0] at H
      by_cases c12 : x30_4 = true
      · subst c12
        have H1 : (some (t174, t175, t176, x1001_4)) = some (r1, r2, r3, r4) := by rw [if_pos rfl] at H; exact H
        clear H
        have H := H1
        clear H1
        simp only [Option.some.injEq, Prod.mk.injEq] at H
        obtain ⟨rfl, rfl, rfl, rfl⟩ := H
        go_wp2
        go_ret3
        exact ⟨by first | rfl | (simp [errW_none, errW_some] <;> rfl) | (simp [*, errW_none, errW_some] <;> rfl), by repeat (first | (with_reducible first | exact HI0.out | apply IsS64.alloc | apply IsS64.drewN | apply IsS64.drew | apply IsS64.set_1) | exact HI0.out), by repeat (first | (with_reducible first | exact HB.out | apply below_alloc | apply pw_below_drewN | apply below_drew1 | refine below_set ?_ (IsS64.ge HI0.out)) | exact HB.out), by repeat (first | (with_reducible first | exact HK.out | apply KeepBut.set_ | apply keep_drewN | apply keep_drew | apply keep_alloc) | exact HK.out)⟩
      replace c12 := Bool.eq_false_iff.mpr c12
      subst c12
      have H1 : ((some (([3, 4, 6, 5, (-3)] : List Int) : List Int)).bind fun y180 => ((spec_l6Rd_pick.f kj4 s0_0 x1001_4 5).bind fun bt183 => (if 0 ≤ bt183.1 then (if bt183.1 < (y180.length : Int) then ((some (([4, 3, 8, 12] : List Int) : List Int)).bind fun y186 => ((spec_l6Rd_pick.f kj4 s0_0 bt183.2 4).bind fun bt189 => (if 0 ≤ bt189.1 then (if bt189.1 < (y186.length : Int) then ((some (([5, 10, 13] : List Int) : List Int)).bind fun y192 => ((spec_l6Rd_pick.f kj4 s0_0 bt189.2 3).bind fun bt195 => (if 0 ≤ bt195.1 then (if bt195.1 < (y192.length : Int) then (some (rd y180 bt183.1, rd y186 bt189.1, rd y192 bt195.1, bt195.2)) else (none)) else (none)))) else (none)) else (none)))) else (none)) else (none)))) = some (r1, r2, r3, r4) := by rw [if_neg (show ¬ (false = true) by decide)] at H; exact H
      clear H
      have H := H1
      clear H1
      obtain ⟨y180, hy180⟩ : ∃ y_ : List Int, y_ = (([3, 4, 6, 5, (-3)] : List Int)) := ⟨_, rfl⟩
      replace H : ((spec_l6Rd_pick.f kj4 s0_0 x1001_4 5).bind fun bt183 => (if 0 ≤ bt183.1 then (if bt183.1 < (y180.length : Int) then ((some (([4, 3, 8, 12] : List Int) : List Int)).bind fun y186 => ((spec_l6Rd_pick.f kj4 s0_0 bt183.2 4).bind fun bt189 => (if 0 ≤ bt189.1 then (if bt189.1 < (y186.length : Int) then ((some (([5, 10, 13] : List Int) : List Int)).bind fun y192 => ((spec_l6Rd_pick.f kj4 s0_0 bt189.2 3).bind fun bt195 => (if 0 ≤ bt195.1 then (if bt195.1 < (y192.length : Int) then (some (rd y180 bt183.1, rd y186 bt189.1, rd y192 bt195.1, bt195.2)) else (none)) else (none)))) else (none)) else (none)))) else (none)) else (none))) = some (r1, r2, r3, r4) := by first | (rw [hy180]; with_reducible exact H) | (have H2_ := (Option.bind_some _ _).symm.trans H; rw [hy180]; with_reducible exact H2_) | (have H2_ := (Option.bind_some _ _).symm.trans H; with_reducible exact H2_) | with_reducible exact H | (rw [hy180]; exact H) | exact H
      have Ny180 := Aside0.mk hy180
      clear hy180
      replace H := Option.bind_eq_some_iff.mp H
      obtain ⟨⟨t183, t184⟩, A130, H⟩ := H
      replace H : (if 0 ≤ t183 then (if t183 < (y180.length : Int) then ((some (([4, 3, 8, 12] : List Int) : List Int)).bind fun y186 => ((spec_l6Rd_pick.f kj4 s0_0 t184 4).bind fun bt189 => (if 0 ≤ bt189.1 then (if bt189.1 < (y186.length : Int) then ((some (([5, 10, 13] : List Int) : List Int)).bind fun y192 => ((spec_l6Rd_pick.f kj4 s0_0 bt189.2 3).bind fun bt195 => (if 0 ≤ bt195.1 then (if bt195.1 < (y192.length : Int) then (some (rd y180 t183, rd y186 bt189.1, rd y192 bt195.1, bt195.2)) else (none)) else (none)))) else (none)) else (none)))) else (none)) else (none)) = some (r1, r2, r3, r4) := H
      have A13 := Aside0.mk A130
      clear A130
      by_cases c14 : 0 ≤ t183
      · rw [if_pos c14] at H
        have c14b0 : decide (0 ≤ t183) = true := decide_eq_true c14
        clear c14
        by_cases c15 : t183 < (y180.length : Int)
        · rw [if_pos c15] at H
          have c15b0 : decide (t183 < (y180.length : Int)) = true := decide_eq_true c15
          clear c15
          obtain ⟨y186, hy186⟩ : ∃ y_ : List Int, y_ = (([4, 3, 8, 12] : List Int)) := ⟨_, rfl⟩
          replace H : ((spec_l6Rd_pick.f kj4 s0_0 t184 4).bind fun bt189 => (if 0 ≤ bt189.1 then (if bt189.1 < (y186.length : Int) then ((some (([5, 10, 13] : List Int) : List Int)).bind fun y192 => ((spec_l6Rd_pick.f kj4 s0_0 bt189.2 3).bind fun bt195 => (if 0 ≤ bt195.1 then (if bt195.1 < (y192.length : Int) then (some (rd y180 t183, rd y186 bt189.1, rd y192 bt195.1, bt195.2)) else (none)) else (none)))) else (none)) else (none))) = some (r1, r2, r3, r4) := by first | (rw [hy186]; with_reducible exact H) | (have H2_ := (Option.bind_some _ _).symm.trans H; rw [hy186]; with_reducible exact H2_) | (have H2_ := (Option.bind_some _ _).symm.trans H; with_reducible exact H2_) | with_reducible exact H | (rw [hy186]; exact H) | exact H
          have Ny186 := Aside0.mk hy186
          clear hy186
          replace H := Option.bind_eq_some_iff.mp H
          obtain ⟨⟨t189, t190⟩, A160, H⟩ := H
          replace H : (if 0 ≤ t189 then (if t189 < (y186.length : Int) then ((some (([5, 10, 13] : List Int) : List Int)).bind fun y192 => ((spec_l6Rd_pick.f kj4 s0_0 t190 3).bind fun bt195 => (if 0 ≤ bt195.1 then (if bt195.1 < (y192.length : Int) then (some (rd y180 t183, rd y186 t189, rd y192 bt195.1, bt195.2)) else (none)) else (none)))) else (none)) else (none)) = some (r1, r2, r3, r4) := H
          have A16 := Aside0.mk A160
          clear A160
          by_cases c17 : 0 ≤ t189
          · rw [if_pos c17] at H
            have c17b0 : decide (0 ≤ t189) = true := decide_eq_true c17
            clear c17
            by_cases c18 : t189 < (y186.length : Int)
            · rw [if_pos c18] at H
              have c18b0 : decide (t189 < (y186.length : Int)) = true := decide_eq_true c18
              clear c18
              obtain ⟨y192, hy192⟩ : ∃ y_ : List Int, y_ = (([5, 10, 13] : List Int)) := ⟨_, rfl⟩
              replace H : ((spec_l6Rd_pick.f kj4 s0_0 t190 3).bind fun bt195 => (if 0 ≤ bt195.1 then (if bt195.1 < (y192.length : Int) then (some (rd y180 t183, rd y186 t189, rd y192 bt195.1, bt195.2)) else (none)) else (none))) = some (r1, r2, r3, r4) := by first | (rw [hy192]; with_reducible exact H) | (have H2_ := (Option.bind_some _ _).symm.trans H; rw [hy192]; with_reducible exact H2_) | (have H2_ := (Option.bind_some _ _).symm.trans H; with_reducible exact H2_) | with_reducible exact H | (rw [hy192]; exact H) | exact H
              have Ny192 := Aside0.mk hy192
              clear hy192
              replace H := Option.bind_eq_some_iff.mp H
              obtain ⟨⟨t195, t196⟩, A190, H⟩ := H
              replace H : (if 0 ≤ t195 then (if t195 < (y192.length : Int) then (some (rd y180 t183, rd y186 t189, rd y192 t195, t196)) else (none)) else (none)) = some (r1, r2, r3, r4) := H
              have A19 := Aside0.mk A190
              clear A190
              by_cases c20 : 0 ≤ t195
              · rw [if_pos c20] at H
                have c20b0 : decide (0 ≤ t195) = true := decide_eq_true c20
                clear c20
                by_cases c21 : t195 < (y192.length : Int)
                · rw [if_pos c21] at H
                  have c21b0 : decide (t195 < (y192.length : Int)) = true := decide_eq_true c21
                  clear c21
                  simp only [Option.some.injEq, Prod.mk.injEq] at H
                  obtain ⟨rfl, rfl, rfl, rfl⟩ := H
                  try go_wp2
                  have pi185 : (0 ≤ (t183 : Int)) = True := eq_true (of_decide_eq_true (by first | (with_reducible assumption) | assumption))
                  have qi185 : (t183 < (y180.length : Int)) = True := eq_true (of_decide_eq_true (by first | (with_reducible assumption) | assumption))
                  have pi191 : (0 ≤ (t189 : Int)) = True := eq_true (of_decide_eq_true (by first | (with_reducible assumption) | assumption))
                  have qi191 : (t189 < (y186.length : Int)) = True := eq_true (of_decide_eq_true (by first | (with_reducible assumption) | assumption))
                  have pi197 : (0 ≤ (t195 : Int)) = True := eq_true (of_decide_eq_true (by first | (with_reducible assumption) | assumption))
                  have qi197 : (t195 < (y192.length : Int)) = True := eq_true (of_decide_eq_true (by first | (with_reducible assumption) | assumption))
                  have n0_ := Aside0.mk (IsS64.drew HI0.out)
                  have n1_ := Aside0.mk (keep_drew HK.out)
                  have n2_ := Aside0.mk (below_drew1 HB.out)
                  clear HI0
                  clear HK
                  try clear HB
                  have HI0 := n0_
                  have HK := n1_
                  have HB := n2_
                  clear n0_ n1_ n2_
                  refine start_ (n := 18) (S := fun w' => True) (ds := []) #[false, false, false, false, false, false, false, false, false, false, false, false, false, false, false, false, false, false] (by kernel_rfl) rfl rfl trivial (fun hHeld => ?_); refine with_tabW spec_l92Triple.tab5 spec_l92Triple.bits5 (fun HT_ HW_ => ?_)
                  generalize wc.drew = w22 at HI0 HK HB hHeld ⊢
                  refine pure_ (i := 1) (N := some 35) (v := ?_) (a' := ?_) #[false, true, false, false, false, false, false, false, false, false, false, false, false, false, false, false, false, false] rfl rfl (any_of HT_.out (by kernel_rfl)) (fun _ _ _ h => h) (Or.inl ⟨by rfl, ?_⟩) ?_ ?_
                  rotate_left
                  · intro w'
                    go_simp
                    with_reducible rfl
                  rotate_left
                  · simp only [Act.put, List.setIfInBounds_toArray, List.set_cons_zero, List.set_cons_succ, i64_w, i32_w]
                    rfl
                  refine pure_ (i := 6) (N := some 40) (v := ?_) (a' := ?_) #[false, true, false, false, false, false, true, false, false, false, false, false, false, false, false, false, false, false] rfl rfl (any_of HT_.out (by kernel_rfl)) (fun _ _ _ h => h) (Or.inl ⟨by rfl, ?_⟩) ?_ ?_
                  rotate_left
                  · intro w'
                    go_simp
                    with_reducible rfl
                  rotate_left
                  · simp only [Act.put, List.setIfInBounds_toArray, List.set_cons_zero, List.set_cons_succ, i64_w, i32_w]
                    rfl
                  refine pure_ (i := 11) (N := some 45) (v := ?_) (a' := ?_) #[false, true, false, false, false, false, true, false, false, false, false, true, false, false, false, false, false, false] rfl rfl (any_of HT_.out (by kernel_rfl)) (fun _ _ _ h => h) (Or.inl ⟨by rfl, ?_⟩) ?_ ?_
                  rotate_left
                  · intro w'
                    go_simp
                    with_reducible rfl
                  rotate_left
                  · simp only [Act.put, List.setIfInBounds_toArray, List.set_cons_zero, List.set_cons_succ, i64_w, i32_w]
                    rfl
                  refine inv_at [0, 2, 3, 4, 5, 7, 8, 9, 10, 12, 13, 14, 15, 16, 17] (fun a0_ b a w' => ∃ (v181 : Value) (adz_v181 : Addr) (v187 : Value) (adz_v187 : Addr) (v193 : Value) (adz_v193 : Addr) (m3_ : Value) (m8_ : Value) (m13_ : Value), a = putSel a0_ b [(0, 34, v181), (2, 36, .int .i64 t183), (3, 37, m3_), (4, 38, .int .i64 (rd y180 t183)), (5, 39, v187), (7, 41, .int .i64 t189), (8, 42, m8_), (9, 43, .int .i64 (rd y186 t189)), (10, 44, v193), (12, 46, .int .i64 t195), (13, 47, m13_), (14, 48, .int .i64 (rd y192 t195)), (15, 2, .int .i64 (rd y180 t183)), (16, 3, .int .i64 (rd y186 t189)), (17, 4, .int .i64 (rd y192 t195))] ∧ (b 2 = false → IsS64 w0 w' g s0_0 x1001_4) ∧ (KeepBut w w' g none) ∧ (Below w0.heap.size w0 w') ∧ (b 0 = true → Kd.R (Kd.int .i64) 3 w' w.heap.size (fun _ => True) v181 y180) ∧ (b 0 = true → ∃ c_, (v181 : Value) = .slice (some adz_v181) y180.length c_) ∧ (b 2 = true → b 7 = false → IsS64 w0 w' g s0_0 t184) ∧ (b 5 = true → Kd.R (Kd.int .i64) 3 w' w.heap.size (fun _ => True) v187 y186) ∧ (b 5 = true → ∃ c_, (v187 : Value) = .slice (some adz_v187) y186.length c_) ∧ (b 7 = true → b 12 = false → IsS64 w0 w' g s0_0 t190) ∧ (b 10 = true → Kd.R (Kd.int .i64) 3 w' w.heap.size (fun _ => True) v193 y192) ∧ (b 10 = true → ∃ c_, (v193 : Value) = .slice (some adz_v193) y192.length c_) ∧ (b 12 = true → IsS64 w0 w' g s0_0 t196) ∧ (b 3 = true → (m3_ : Value) = .pointer (some (adz_v181.add (t183).toNat))) ∧ (b 8 = true → (m8_ : Value) = .pointer (some (adz_v187.add (t189).toNat))) ∧ (b 13 = true → (m13_ : Value) = .pointer (some (adz_v193.add (t195).toNat)))) HT_.out HW_.out (by kernel_rfl) (by kernel_rfl) ?_ ?_ ?_
                  · exact ⟨.bool false, ⟨0, 0, none⟩, .bool false, ⟨0, 0, none⟩, .bool false, ⟨0, 0, none⟩, .bool false, .bool false, .bool false, by simp only [putSel, Bool.false_eq_true, if_false], fun _ => HI0.out, HK.out, HB.out, fun h_ => absurd h_ (by decide), fun h_ => absurd h_ (by decide), fun h_ => absurd h_ (by decide), fun h_ => absurd h_ (by decide), fun h_ => absurd h_ (by decide), fun h_ => absurd h_ (by decide), fun h_ => absurd h_ (by decide), fun h_ => absurd h_ (by decide), fun h_ => absurd h_ (by decide), fun h_ => absurd h_ (by decide), fun h_ => absurd h_ (by decide), fun h_ => absurd h_ (by decide)⟩
                  · skip
                    clear HB HI0 HK
                    refine steps_cons ?_ ?_
                    · rintro b a w' ⟨v181, adz_v181, v187, adz_v187, v193, adz_v193, m3_, m8_, m13_, ha, Q_HI0, Q_HK, Q_HB, Q_HO182, Q_HA_HO182, Q_HI0_e2, Q_HO188, Q_HA_HO188, Q_HI0_e7, Q_HO194, Q_HA_HO194, Q_HI0_e12, Q_X3_, Q_X8_, Q_X13_⟩ hb_ hon hoff
                      refine ⟨_, rfl, fun K hK => ?_⟩
                      replace ha := Aside0.mk ha
                      have HK := Aside0.mk Q_HK
                      have HB := Aside0.mk Q_HB
                      refine Kd.R_lit_step (Kd.int .i64) _ 3 ?hg (N := 34) ?hd (xs := ([3, 4, 6, 5, (-3)] : List Int)) (inner := [.int .i64 3, .int .i64 4, .int .i64 6, .int .i64 5, .int .i64 (-3)]) (ok := fun _ => True) (okp := fun _ => True) ?hr ?hp (fun _ hk => hk) trivial (Below.refl _ _) (Nat.le_refl _) (by simp) ?_; (case hd => rfl); (case hg => rfl); (case hr => first | (go_simp; done) | (go_simp; rfl)); (case hp => exact (Reps.one (show Kd.M (Kd.int .i64) _ _ _ 3 [.int .i64 3] from rfl) (Reps.one (show Kd.M (Kd.int .i64) _ _ _ 4 [.int .i64 4] from rfl) (Reps.one (show Kd.M (Kd.int .i64) _ _ _ 6 [.int .i64 6] from rfl) (Reps.one (show Kd.M (Kd.int .i64) _ _ _ 5 [.int .i64 5] from rfl) (Reps.one (show Kd.M (Kd.int .i64) _ _ _ (-3) [.int .i64 (-3)] from rfl) (Reps.none _ _)))))))
                      intro v181 w23 ho24 hb hg_ hnew_
                      clear hg_ hnew_
                      (first | rw [← Ny180.out] at ho24 | (simp only [Int.reduceToNat] at ho24; rw [← Ny180.out] at ho24))
                      have n0_ := Aside0.mk (Kd.R_lower ho24 (keep_size (w := w) (g := g) (row := none) (by repeat (first | (with_reducible first | exact HK.out | apply KeepBut.set_ | apply keep_drewN | apply keep_drew | apply keep_alloc) | exact HK.out))))
                      have n2_ := Aside0.mk (KeepBut.trans (by repeat (first | (with_reducible first | exact HK.out | apply KeepBut.set_ | apply keep_drewN | apply keep_drew | apply keep_alloc) | exact HK.out)) (KeepBut.of_below hb g none) (.inl rfl))
                      have n3_ := Aside0.mk (below_step (by repeat (first | (with_reducible first | exact HB.out | apply below_alloc | apply pw_below_drewN | apply below_drew1) | exact HB.out | exact Below.refl _ _)) hb)
                      have z_HI0 := fun (h0_ : b 2 = false) => (show IsS64 w0 w23 g s0_0 x1001_4 from by first | exact (IsS64.below (by repeat (first | (with_reducible first | exact (Q_HI0 h0_) | apply IsS64.alloc | apply IsS64.drewN | apply IsS64.drew | apply IsS64.set_1) | exact (Q_HI0 h0_))) hb))
                      have z_HI0_e2 := fun (h0_ : b 2 = true) (h1_ : b 7 = false) => (show IsS64 w0 w23 g s0_0 t184 from by first | exact (IsS64.below (by repeat (first | (with_reducible first | exact (Q_HI0_e2 h0_ h1_) | apply IsS64.alloc | apply IsS64.drewN | apply IsS64.drew | apply IsS64.set_1) | exact (Q_HI0_e2 h0_ h1_))) hb))
                      have z_HO188 := fun (h0_ : b 5 = true) => (show Kd.R (Kd.int .i64) 3 w23 w.heap.size (fun _ => True) v187 y186 from by first | exact (Kd.R_elder' (by (with_reducible repeat (first | apply Kd.R_alloc | apply Kd.R_drewN | apply Kd.R_drew)); exact (Q_HO188 h0_)) (Kd.R_base ho24) hb) | exact Kd.R_mono (Kd.R_elder' (by (with_reducible repeat (first | apply Kd.R_alloc | apply Kd.R_drewN | apply Kd.R_drew)); exact (Q_HO188 h0_)) (Kd.R_base ho24) hb) (fun _ h_ => by first | trivial | exact h_ | exact h_.1))
                      have z_HI0_e7 := fun (h0_ : b 7 = true) (h1_ : b 12 = false) => (show IsS64 w0 w23 g s0_0 t190 from by first | exact (IsS64.below (by repeat (first | (with_reducible first | exact (Q_HI0_e7 h0_ h1_) | apply IsS64.alloc | apply IsS64.drewN | apply IsS64.drew | apply IsS64.set_1) | exact (Q_HI0_e7 h0_ h1_))) hb))
                      have z_HO194 := fun (h0_ : b 10 = true) => (show Kd.R (Kd.int .i64) 3 w23 w.heap.size (fun _ => True) v193 y192 from by first | exact (Kd.R_elder' (by (with_reducible repeat (first | apply Kd.R_alloc | apply Kd.R_drewN | apply Kd.R_drew)); exact (Q_HO194 h0_)) (Kd.R_base ho24) hb) | exact Kd.R_mono (Kd.R_elder' (by (with_reducible repeat (first | apply Kd.R_alloc | apply Kd.R_drewN | apply Kd.R_drew)); exact (Q_HO194 h0_)) (Kd.R_base ho24) hb) (fun _ h_ => by first | trivial | exact h_ | exact h_.1))
                      have z_HI0_e12 := fun (h0_ : b 12 = true) => (show IsS64 w0 w23 g s0_0 t196 from by first | exact (IsS64.below (by repeat (first | (with_reducible first | exact (Q_HI0_e12 h0_) | apply IsS64.alloc | apply IsS64.drewN | apply IsS64.drew | apply IsS64.set_1) | exact (Q_HI0_e12 h0_))) hb))
                      clear HK
                      try clear HB
                      have HO182 := n0_
                      have HK := n2_
                      have HB := n3_
                      clear n0_ n2_ n3_
                      clear hb ho24
                      obtain ⟨Ao25, co25, eo25⟩ := Kd.R_slice HO182.out
                      subst eo25
                      obtain ⟨ado25, fo25, _⟩ := Kd.at_int (Kd.R_reads' HO182.out).2.2 0 (by decide) (by rw [Ny180.out]; simp)
                      cases fo25
                      refine hK.out _ _ ⟨.slice (some ado25) y180.length co25, ado25, v187, adz_v187, v193, adz_v193, m3_, m8_, m13_, (by rw [ha.out]; exact putSel_upk 0 hb_ rfl rfl rfl), z_HI0, (by repeat (first | (with_reducible first | exact HK.out | apply KeepBut.set_ | apply keep_drewN | apply keep_drew | apply keep_alloc) | exact HK.out)), (by repeat (first | (with_reducible first | exact HB.out | apply below_alloc | apply pw_below_drewN | apply below_drew1) | exact HB.out | exact Below.refl _ _)), fun _ => (by (with_reducible repeat (first | apply Kd.R_alloc | apply Kd.R_drewN | apply Kd.R_drew)); exact HO182.out), fun _ => ⟨_, rfl⟩, z_HI0_e2, z_HO188, Q_HA_HO188, z_HI0_e7, z_HO194, Q_HA_HO194, z_HI0_e12, fun h0_ => absurd ((hoff 3 (by kernel_rfl)).symm.trans h0_) (by decide), Q_X8_, Q_X13_⟩
                    refine steps_cons ?_ ?_
                    · rintro b a w' ⟨v181, adz_v181, v187, adz_v187, v193, adz_v193, m3_, m8_, m13_, ha, Q_HI0, Q_HK, Q_HB, Q_HO182, Q_HA_HO182, Q_HI0_e2, Q_HO188, Q_HA_HO188, Q_HI0_e7, Q_HO194, Q_HA_HO194, Q_HI0_e12, Q_X3_, Q_X8_, Q_X13_⟩ hb_ hon hoff
                      refine ⟨_, rfl, fun K hK => ?_⟩
                      have e35 : a.tmps[35]? = some (.pointer (some ⟨g, 0, none⟩)) := by rw [ha]; exact (putSel_off rfl).trans rfl
                      replace ha := Aside0.mk ha
                      have HI0 := Aside0.mk (Q_HI0 hb_)
                      have HK := Aside0.mk Q_HK
                      have HB := Aside0.mk Q_HB
                      refine goes_ Try.func49 (by kernel_rfl) rfl #[.pointer (some ⟨g, 0, none⟩), .int .i64 5] (by rfl) rfl rfl (by first | (simp only [List.map_toArray, List.map_cons, List.map_nil, Act.eval, Array.getD_eq_getD_getElem?, Option.getD_some, e35]; done) | (simp only [List.map_toArray, List.map_cons, List.map_nil, Act.eval, Array.getD_eq_getD_getElem?, Option.getD_some, e35]; rfl)) ?_
                      with_reducible refine (spec_l6Rd_pick.calls kj4 g s0_0 x1001_4 5 t183 t184 w0 _ ?side1 ?side2 A13.out).mono ?_
                      (case side1 => repeat (first | (with_reducible first | exact HI0.out | apply IsS64.alloc | apply IsS64.drewN | apply IsS64.drew | apply IsS64.set_1) | exact HI0.out))
                      (case side2 => repeat (first | (with_reducible first | exact HB.out | apply below_alloc | apply pw_below_drewN | apply below_drew1 | refine below_set ?_ (IsS64.ge HI0.out)) | exact HB.out))
                      rintro e w23 ⟨rfl, hi, hb, hk⟩
                      refine ⟨_, rfl, ?_⟩
                      have n0_ := Aside0.mk (KeepBut.trans (by repeat (first | (with_reducible first | exact HK.out | apply KeepBut.set_ | apply keep_drewN | apply keep_drew | apply keep_alloc) | exact HK.out)) hk (.inl rfl))
                      have n1_ := Aside0.mk (hb)
                      have n2_ := Aside0.mk (hi)
                      have z_HO182 := fun (h0_ : b 0 = true) => (show Kd.R (Kd.int .i64) 3 w23 w.heap.size (fun _ => True) v181 y180 from by first | exact (Kd.R_mono (Kd.R_keep (IsS64.apart (show IsS64 w0 _ g s0_0 x1001_4 from by repeat (first | (with_reducible first | exact HI0.out | apply IsS64.alloc | apply IsS64.drewN | apply IsS64.drew | apply IsS64.set_1) | exact HI0.out)) (by (with_reducible repeat (first | apply Kd.R_alloc | apply Kd.R_drewN | apply Kd.R_drew)); exact (Q_HO182 h0_)) (by decide)) hk (fun _ h => h.2)) (fun _ h => h.1)) | exact Kd.R_mono (Kd.R_mono (Kd.R_keep (IsS64.apart (show IsS64 w0 _ g s0_0 x1001_4 from by repeat (first | (with_reducible first | exact HI0.out | apply IsS64.alloc | apply IsS64.drewN | apply IsS64.drew | apply IsS64.set_1) | exact HI0.out)) (by (with_reducible repeat (first | apply Kd.R_alloc | apply Kd.R_drewN | apply Kd.R_drew)); exact (Q_HO182 h0_)) (by decide)) hk (fun _ h => h.2)) (fun _ h => h.1)) (fun _ h_ => by first | trivial | exact h_ | exact h_.1))
                      have z_HO188 := fun (h0_ : b 5 = true) => (show Kd.R (Kd.int .i64) 3 w23 w.heap.size (fun _ => True) v187 y186 from by first | exact (Kd.R_mono (Kd.R_keep (IsS64.apart (show IsS64 w0 _ g s0_0 x1001_4 from by repeat (first | (with_reducible first | exact HI0.out | apply IsS64.alloc | apply IsS64.drewN | apply IsS64.drew | apply IsS64.set_1) | exact HI0.out)) (by (with_reducible repeat (first | apply Kd.R_alloc | apply Kd.R_drewN | apply Kd.R_drew)); exact (Q_HO188 h0_)) (by decide)) hk (fun _ h => h.2)) (fun _ h => h.1)) | exact Kd.R_mono (Kd.R_mono (Kd.R_keep (IsS64.apart (show IsS64 w0 _ g s0_0 x1001_4 from by repeat (first | (with_reducible first | exact HI0.out | apply IsS64.alloc | apply IsS64.drewN | apply IsS64.drew | apply IsS64.set_1) | exact HI0.out)) (by (with_reducible repeat (first | apply Kd.R_alloc | apply Kd.R_drewN | apply Kd.R_drew)); exact (Q_HO188 h0_)) (by decide)) hk (fun _ h => h.2)) (fun _ h => h.1)) (fun _ h_ => by first | trivial | exact h_ | exact h_.1))
                      have z_HO194 := fun (h0_ : b 10 = true) => (show Kd.R (Kd.int .i64) 3 w23 w.heap.size (fun _ => True) v193 y192 from by first | exact (Kd.R_mono (Kd.R_keep (IsS64.apart (show IsS64 w0 _ g s0_0 x1001_4 from by repeat (first | (with_reducible first | exact HI0.out | apply IsS64.alloc | apply IsS64.drewN | apply IsS64.drew | apply IsS64.set_1) | exact HI0.out)) (by (with_reducible repeat (first | apply Kd.R_alloc | apply Kd.R_drewN | apply Kd.R_drew)); exact (Q_HO194 h0_)) (by decide)) hk (fun _ h => h.2)) (fun _ h => h.1)) | exact Kd.R_mono (Kd.R_mono (Kd.R_keep (IsS64.apart (show IsS64 w0 _ g s0_0 x1001_4 from by repeat (first | (with_reducible first | exact HI0.out | apply IsS64.alloc | apply IsS64.drewN | apply IsS64.drew | apply IsS64.set_1) | exact HI0.out)) (by (with_reducible repeat (first | apply Kd.R_alloc | apply Kd.R_drewN | apply Kd.R_drew)); exact (Q_HO194 h0_)) (by decide)) hk (fun _ h => h.2)) (fun _ h => h.1)) (fun _ h_ => by first | trivial | exact h_ | exact h_.1))
                      clear HK
                      try clear HB
                      clear HI0
                      have HK := n0_
                      have HB := n1_
                      have HI0 := n2_
                      clear n0_ n1_ n2_
                      (try clear hb)
                      (try clear hb2)
                      (try clear hk)
                      (try clear hi)
                      refine hK.out _ _ ⟨v181, adz_v181, v187, adz_v187, v193, adz_v193, m3_, m8_, m13_, (by rw [ha.out]; exact putSel_upk 1 hb_ rfl rfl rfl), fun h0_ => absurd ((up_self b 2).symm.trans h0_) (by decide), (by repeat (first | (with_reducible first | exact HK.out | apply KeepBut.set_ | apply keep_drewN | apply keep_drew | apply keep_alloc) | exact HK.out)), (by repeat (first | (with_reducible first | exact HB.out | apply below_alloc | apply pw_below_drewN | apply below_drew1 | refine below_set ?_ (IsS64.ge HI0.out)) | exact HB.out)), z_HO182, Q_HA_HO182, fun _ _ => (by repeat (first | (with_reducible first | exact HI0.out | apply IsS64.alloc | apply IsS64.drewN | apply IsS64.drew | apply IsS64.set_1) | exact HI0.out)), z_HO188, Q_HA_HO188, fun h0_ _ => absurd ((hoff 7 (by kernel_rfl)).symm.trans h0_) (by decide), z_HO194, Q_HA_HO194, fun h0_ => absurd ((hoff 12 (by kernel_rfl)).symm.trans h0_) (by decide), fun h0_ => absurd ((hoff 3 (by kernel_rfl)).symm.trans h0_) (by decide), fun h0_ => absurd ((hoff 8 (by kernel_rfl)).symm.trans h0_) (by decide), fun h0_ => absurd ((hoff 13 (by kernel_rfl)).symm.trans h0_) (by decide)⟩
                    refine steps_cons ?_ ?_
                    · rintro b a w' ⟨v181, adz_v181, v187, adz_v187, v193, adz_v193, m3_, m8_, m13_, ha, Q_HI0, Q_HK, Q_HB, Q_HO182, Q_HA_HO182, Q_HI0_e2, Q_HO188, Q_HA_HO188, Q_HI0_e7, Q_HO194, Q_HA_HO194, Q_HI0_e12, Q_X3_, Q_X8_, Q_X13_⟩ hb_ hon hoff
                      refine ⟨_, rfl, fun K hK => ?_⟩
                      have e34 : a.tmps[34]? = some (v181) := by rw [ha]; exact putSel_on (e := (0, 34, v181)) 0 rfl rfl (hon 0 (by kernel_rfl)) rfl
                      have e36 : a.tmps[36]? = some (.int .i64 t183) := by rw [ha]; exact putSel_on (e := (2, 36, .int .i64 t183)) 1 rfl rfl (hon 2 (by kernel_rfl)) rfl
                      replace ha := Aside0.mk ha
                      have HK := Aside0.mk Q_HK
                      have HB := Aside0.mk Q_HB
                      have HO182 := Aside0.mk (Q_HO182 (hon 0 (by kernel_rfl)))
                      have HA_HO182 := Aside0.mk (Q_HA_HO182 (hon 0 (by kernel_rfl)))
                      obtain ⟨c_, hv_⟩ := HA_HO182.out
                      rw [hv_] at e34
                      refine value_ (w1 := w') (v := .pointer (some (adz_v181.add (t183).toNat))) (by rfl) rfl ?_ ?_
                      · go_simp
                        (try simp only [i64_w])
                        try rfl
                      refine hK.out _ _ ⟨v181, adz_v181, v187, adz_v187, v193, adz_v193, (.pointer (some (adz_v181.add (t183).toNat))), m8_, m13_, (by rw [ha.out]; exact putSel_upk 2 hb_ rfl rfl rfl), fun h0_ => absurd ((hon 2 (by kernel_rfl)).symm.trans h0_) (by decide), Q_HK, Q_HB, Q_HO182, Q_HA_HO182, Q_HI0_e2, Q_HO188, Q_HA_HO188, Q_HI0_e7, Q_HO194, Q_HA_HO194, Q_HI0_e12, fun _ => rfl, Q_X8_, Q_X13_⟩
                    refine steps_cons ?_ ?_
                    · rintro b a w' ⟨v181, adz_v181, v187, adz_v187, v193, adz_v193, m3_, m8_, m13_, ha, Q_HI0, Q_HK, Q_HB, Q_HO182, Q_HA_HO182, Q_HI0_e2, Q_HO188, Q_HA_HO188, Q_HI0_e7, Q_HO194, Q_HA_HO194, Q_HI0_e12, Q_X3_, Q_X8_, Q_X13_⟩ hb_ hon hoff
                      refine ⟨_, rfl, fun K hK => ?_⟩
                      have e37 : a.tmps[37]? = some (m3_) := by rw [ha]; exact putSel_on (e := (3, 37, m3_)) 2 rfl rfl (hon 3 (by kernel_rfl)) rfl
                      rw [Q_X3_ (hon 3 (by kernel_rfl))] at e37
                      replace ha := Aside0.mk ha
                      have HK := Aside0.mk Q_HK
                      have HB := Aside0.mk Q_HB
                      have HO182 := Aside0.mk (Q_HO182 (hon 0 (by kernel_rfl)))
                      have HA_HO182 := Aside0.mk (Q_HA_HO182 (hon 0 (by kernel_rfl)))
                      obtain ⟨c_, hv_⟩ := HA_HO182.out
                      have hF_ := HO182.out
                      rw [hv_] at hF_
                      obtain ⟨ad_, ea_, hx_⟩ := Kd.at_int (Kd.R_reads' hF_).2.2 t183 (of_eq_true pi185) (of_eq_true qi185)
                      cases ea_
                      refine value_ (w1 := w') (v := .int .i64 (rd y180 t183)) (by rfl) rfl ?_ ?_
                      · go_simp
                        (try simp only [i64_w])
                        try rfl
                      refine hK.out _ _ ⟨v181, adz_v181, v187, adz_v187, v193, adz_v193, m3_, m8_, m13_, (by rw [ha.out]; exact putSel_upk 3 hb_ rfl rfl rfl), fun h0_ => absurd ((hon 2 (by kernel_rfl)).symm.trans h0_) (by decide), Q_HK, Q_HB, Q_HO182, Q_HA_HO182, Q_HI0_e2, Q_HO188, Q_HA_HO188, Q_HI0_e7, Q_HO194, Q_HA_HO194, Q_HI0_e12, Q_X3_, Q_X8_, Q_X13_⟩
                    refine steps_cons ?_ ?_
                    · rintro b a w' ⟨v181, adz_v181, v187, adz_v187, v193, adz_v193, m3_, m8_, m13_, ha, Q_HI0, Q_HK, Q_HB, Q_HO182, Q_HA_HO182, Q_HI0_e2, Q_HO188, Q_HA_HO188, Q_HI0_e7, Q_HO194, Q_HA_HO194, Q_HI0_e12, Q_X3_, Q_X8_, Q_X13_⟩ hb_ hon hoff
                      refine ⟨_, rfl, fun K hK => ?_⟩
                      replace ha := Aside0.mk ha
                      have HK := Aside0.mk Q_HK
                      have HB := Aside0.mk Q_HB
                      refine Kd.R_lit_step (Kd.int .i64) _ 3 ?hg (N := 39) ?hd (xs := ([4, 3, 8, 12] : List Int)) (inner := [.int .i64 4, .int .i64 3, .int .i64 8, .int .i64 12]) (ok := fun _ => True) (okp := fun _ => True) ?hr ?hp (fun _ hk => hk) trivial (Below.refl _ _) (Nat.le_refl _) (by simp) ?_; (case hd => rfl); (case hg => rfl); (case hr => first | (go_simp; done) | (go_simp; rfl)); (case hp => exact (Reps.one (show Kd.M (Kd.int .i64) _ _ _ 4 [.int .i64 4] from rfl) (Reps.one (show Kd.M (Kd.int .i64) _ _ _ 3 [.int .i64 3] from rfl) (Reps.one (show Kd.M (Kd.int .i64) _ _ _ 8 [.int .i64 8] from rfl) (Reps.one (show Kd.M (Kd.int .i64) _ _ _ 12 [.int .i64 12] from rfl) (Reps.none _ _))))))
                      intro v187 w23 ho24 hb hg_ hnew_
                      clear hg_ hnew_
                      (first | rw [← Ny186.out] at ho24 | (simp only [Int.reduceToNat] at ho24; rw [← Ny186.out] at ho24))
                      have n0_ := Aside0.mk (Kd.R_lower ho24 (keep_size (w := w) (g := g) (row := none) (by repeat (first | (with_reducible first | exact HK.out | apply KeepBut.set_ | apply keep_drewN | apply keep_drew | apply keep_alloc) | exact HK.out))))
                      have n2_ := Aside0.mk (KeepBut.trans (by repeat (first | (with_reducible first | exact HK.out | apply KeepBut.set_ | apply keep_drewN | apply keep_drew | apply keep_alloc) | exact HK.out)) (KeepBut.of_below hb g none) (.inl rfl))
                      have n3_ := Aside0.mk (below_step (by repeat (first | (with_reducible first | exact HB.out | apply below_alloc | apply pw_below_drewN | apply below_drew1) | exact HB.out | exact Below.refl _ _)) hb)
                      have z_HI0 := fun (h0_ : b 2 = false) => (show IsS64 w0 w23 g s0_0 x1001_4 from by first | exact (IsS64.below (by repeat (first | (with_reducible first | exact (Q_HI0 h0_) | apply IsS64.alloc | apply IsS64.drewN | apply IsS64.drew | apply IsS64.set_1) | exact (Q_HI0 h0_))) hb))
                      have z_HO182 := fun (h0_ : b 0 = true) => (show Kd.R (Kd.int .i64) 3 w23 w.heap.size (fun _ => True) v181 y180 from by first | exact (Kd.R_elder' (by (with_reducible repeat (first | apply Kd.R_alloc | apply Kd.R_drewN | apply Kd.R_drew)); exact (Q_HO182 h0_)) (Kd.R_base ho24) hb) | exact Kd.R_mono (Kd.R_elder' (by (with_reducible repeat (first | apply Kd.R_alloc | apply Kd.R_drewN | apply Kd.R_drew)); exact (Q_HO182 h0_)) (Kd.R_base ho24) hb) (fun _ h_ => by first | trivial | exact h_ | exact h_.1))
                      have z_HI0_e2 := fun (h0_ : b 2 = true) (h1_ : b 7 = false) => (show IsS64 w0 w23 g s0_0 t184 from by first | exact (IsS64.below (by repeat (first | (with_reducible first | exact (Q_HI0_e2 h0_ h1_) | apply IsS64.alloc | apply IsS64.drewN | apply IsS64.drew | apply IsS64.set_1) | exact (Q_HI0_e2 h0_ h1_))) hb))
                      have z_HI0_e7 := fun (h0_ : b 7 = true) (h1_ : b 12 = false) => (show IsS64 w0 w23 g s0_0 t190 from by first | exact (IsS64.below (by repeat (first | (with_reducible first | exact (Q_HI0_e7 h0_ h1_) | apply IsS64.alloc | apply IsS64.drewN | apply IsS64.drew | apply IsS64.set_1) | exact (Q_HI0_e7 h0_ h1_))) hb))
                      have z_HO194 := fun (h0_ : b 10 = true) => (show Kd.R (Kd.int .i64) 3 w23 w.heap.size (fun _ => True) v193 y192 from by first | exact (Kd.R_elder' (by (with_reducible repeat (first | apply Kd.R_alloc | apply Kd.R_drewN | apply Kd.R_drew)); exact (Q_HO194 h0_)) (Kd.R_base ho24) hb) | exact Kd.R_mono (Kd.R_elder' (by (with_reducible repeat (first | apply Kd.R_alloc | apply Kd.R_drewN | apply Kd.R_drew)); exact (Q_HO194 h0_)) (Kd.R_base ho24) hb) (fun _ h_ => by first | trivial | exact h_ | exact h_.1))
                      have z_HI0_e12 := fun (h0_ : b 12 = true) => (show IsS64 w0 w23 g s0_0 t196 from by first | exact (IsS64.below (by repeat (first | (with_reducible first | exact (Q_HI0_e12 h0_) | apply IsS64.alloc | apply IsS64.drewN | apply IsS64.drew | apply IsS64.set_1) | exact (Q_HI0_e12 h0_))) hb))
                      clear HK
                      try clear HB
                      have HO188 := n0_
                      have HK := n2_
                      have HB := n3_
                      clear n0_ n2_ n3_
                      clear hb ho24
                      obtain ⟨Ao25, co25, eo25⟩ := Kd.R_slice HO188.out
                      subst eo25
                      obtain ⟨ado25, fo25, _⟩ := Kd.at_int (Kd.R_reads' HO188.out).2.2 0 (by decide) (by rw [Ny186.out]; simp)
                      cases fo25
                      refine hK.out _ _ ⟨v181, adz_v181, .slice (some ado25) y186.length co25, ado25, v193, adz_v193, m3_, m8_, m13_, (by rw [ha.out]; exact putSel_upk 4 hb_ rfl rfl rfl), z_HI0, (by repeat (first | (with_reducible first | exact HK.out | apply KeepBut.set_ | apply keep_drewN | apply keep_drew | apply keep_alloc) | exact HK.out)), (by repeat (first | (with_reducible first | exact HB.out | apply below_alloc | apply pw_below_drewN | apply below_drew1) | exact HB.out | exact Below.refl _ _)), z_HO182, Q_HA_HO182, z_HI0_e2, fun _ => (by (with_reducible repeat (first | apply Kd.R_alloc | apply Kd.R_drewN | apply Kd.R_drew)); exact HO188.out), fun _ => ⟨_, rfl⟩, z_HI0_e7, z_HO194, Q_HA_HO194, z_HI0_e12, Q_X3_, fun h0_ => absurd ((hoff 8 (by kernel_rfl)).symm.trans h0_) (by decide), Q_X13_⟩
                    refine steps_cons ?_ ?_
                    · rintro b a w' ⟨v181, adz_v181, v187, adz_v187, v193, adz_v193, m3_, m8_, m13_, ha, Q_HI0, Q_HK, Q_HB, Q_HO182, Q_HA_HO182, Q_HI0_e2, Q_HO188, Q_HA_HO188, Q_HI0_e7, Q_HO194, Q_HA_HO194, Q_HI0_e12, Q_X3_, Q_X8_, Q_X13_⟩ hb_ hon hoff
                      refine ⟨_, rfl, fun K hK => ?_⟩
                      have e40 : a.tmps[40]? = some (.pointer (some ⟨g, 0, none⟩)) := by rw [ha]; exact (putSel_off rfl).trans rfl
                      replace ha := Aside0.mk ha
                      have HK := Aside0.mk Q_HK
                      have HB := Aside0.mk Q_HB
                      have HI0 := Aside0.mk (Q_HI0_e2 (hon 2 (by kernel_rfl)) hb_)
                      refine goes_ Try.func49 (by kernel_rfl) rfl #[.pointer (some ⟨g, 0, none⟩), .int .i64 4] (by rfl) rfl rfl (by first | (simp only [List.map_toArray, List.map_cons, List.map_nil, Act.eval, Array.getD_eq_getD_getElem?, Option.getD_some, e40]; done) | (simp only [List.map_toArray, List.map_cons, List.map_nil, Act.eval, Array.getD_eq_getD_getElem?, Option.getD_some, e40]; rfl)) ?_
                      with_reducible refine (spec_l6Rd_pick.calls kj4 g s0_0 t184 4 t189 t190 w0 _ ?side1 ?side2 A16.out).mono ?_
                      (case side1 => repeat (first | (with_reducible first | exact HI0.out | apply IsS64.alloc | apply IsS64.drewN | apply IsS64.drew | apply IsS64.set_1) | exact HI0.out))
                      (case side2 => repeat (first | (with_reducible first | exact HB.out | apply below_alloc | apply pw_below_drewN | apply below_drew1 | refine below_set ?_ (IsS64.ge HI0.out)) | exact HB.out))
                      rintro e w25 ⟨rfl, hi, hb, hk⟩
                      refine ⟨_, rfl, ?_⟩
                      have n0_ := Aside0.mk (KeepBut.trans (by repeat (first | (with_reducible first | exact HK.out | apply KeepBut.set_ | apply keep_drewN | apply keep_drew | apply keep_alloc) | exact HK.out)) hk (.inl rfl))
                      have n1_ := Aside0.mk (hb)
                      have n2_ := Aside0.mk (hi)
                      have z_HO182 := fun (h0_ : b 0 = true) => (show Kd.R (Kd.int .i64) 3 w25 w.heap.size (fun _ => True) v181 y180 from by first | exact (Kd.R_mono (Kd.R_keep (IsS64.apart (show IsS64 w0 _ g s0_0 t184 from by repeat (first | (with_reducible first | exact HI0.out | apply IsS64.alloc | apply IsS64.drewN | apply IsS64.drew | apply IsS64.set_1) | exact HI0.out)) (by (with_reducible repeat (first | apply Kd.R_alloc | apply Kd.R_drewN | apply Kd.R_drew)); exact (Q_HO182 h0_)) (by decide)) hk (fun _ h => h.2)) (fun _ h => h.1)) | exact Kd.R_mono (Kd.R_mono (Kd.R_keep (IsS64.apart (show IsS64 w0 _ g s0_0 t184 from by repeat (first | (with_reducible first | exact HI0.out | apply IsS64.alloc | apply IsS64.drewN | apply IsS64.drew | apply IsS64.set_1) | exact HI0.out)) (by (with_reducible repeat (first | apply Kd.R_alloc | apply Kd.R_drewN | apply Kd.R_drew)); exact (Q_HO182 h0_)) (by decide)) hk (fun _ h => h.2)) (fun _ h => h.1)) (fun _ h_ => by first | trivial | exact h_ | exact h_.1))
                      have z_HO188 := fun (h0_ : b 5 = true) => (show Kd.R (Kd.int .i64) 3 w25 w.heap.size (fun _ => True) v187 y186 from by first | exact (Kd.R_mono (Kd.R_keep (IsS64.apart (show IsS64 w0 _ g s0_0 t184 from by repeat (first | (with_reducible first | exact HI0.out | apply IsS64.alloc | apply IsS64.drewN | apply IsS64.drew | apply IsS64.set_1) | exact HI0.out)) (by (with_reducible repeat (first | apply Kd.R_alloc | apply Kd.R_drewN | apply Kd.R_drew)); exact (Q_HO188 h0_)) (by decide)) hk (fun _ h => h.2)) (fun _ h => h.1)) | exact Kd.R_mono (Kd.R_mono (Kd.R_keep (IsS64.apart (show IsS64 w0 _ g s0_0 t184 from by repeat (first | (with_reducible first | exact HI0.out | apply IsS64.alloc | apply IsS64.drewN | apply IsS64.drew | apply IsS64.set_1) | exact HI0.out)) (by (with_reducible repeat (first | apply Kd.R_alloc | apply Kd.R_drewN | apply Kd.R_drew)); exact (Q_HO188 h0_)) (by decide)) hk (fun _ h => h.2)) (fun _ h => h.1)) (fun _ h_ => by first | trivial | exact h_ | exact h_.1))
                      have z_HO194 := fun (h0_ : b 10 = true) => (show Kd.R (Kd.int .i64) 3 w25 w.heap.size (fun _ => True) v193 y192 from by first | exact (Kd.R_mono (Kd.R_keep (IsS64.apart (show IsS64 w0 _ g s0_0 t184 from by repeat (first | (with_reducible first | exact HI0.out | apply IsS64.alloc | apply IsS64.drewN | apply IsS64.drew | apply IsS64.set_1) | exact HI0.out)) (by (with_reducible repeat (first | apply Kd.R_alloc | apply Kd.R_drewN | apply Kd.R_drew)); exact (Q_HO194 h0_)) (by decide)) hk (fun _ h => h.2)) (fun _ h => h.1)) | exact Kd.R_mono (Kd.R_mono (Kd.R_keep (IsS64.apart (show IsS64 w0 _ g s0_0 t184 from by repeat (first | (with_reducible first | exact HI0.out | apply IsS64.alloc | apply IsS64.drewN | apply IsS64.drew | apply IsS64.set_1) | exact HI0.out)) (by (with_reducible repeat (first | apply Kd.R_alloc | apply Kd.R_drewN | apply Kd.R_drew)); exact (Q_HO194 h0_)) (by decide)) hk (fun _ h => h.2)) (fun _ h => h.1)) (fun _ h_ => by first | trivial | exact h_ | exact h_.1))
                      clear HK
                      try clear HB
                      clear HI0
                      have HK := n0_
                      have HB := n1_
                      have HI0 := n2_
                      clear n0_ n1_ n2_
                      (try clear hb)
                      (try clear hb2)
                      (try clear hk)
                      (try clear hi)
                      refine hK.out _ _ ⟨v181, adz_v181, v187, adz_v187, v193, adz_v193, m3_, m8_, m13_, (by rw [ha.out]; exact putSel_upk 5 hb_ rfl rfl rfl), fun h0_ => absurd ((hon 2 (by kernel_rfl)).symm.trans h0_) (by decide), (by repeat (first | (with_reducible first | exact HK.out | apply KeepBut.set_ | apply keep_drewN | apply keep_drew | apply keep_alloc) | exact HK.out)), (by repeat (first | (with_reducible first | exact HB.out | apply below_alloc | apply pw_below_drewN | apply below_drew1 | refine below_set ?_ (IsS64.ge HI0.out)) | exact HB.out)), z_HO182, Q_HA_HO182, fun _ h1_ => absurd ((up_self b 7).symm.trans h1_) (by decide), z_HO188, Q_HA_HO188, fun _ _ => (by repeat (first | (with_reducible first | exact HI0.out | apply IsS64.alloc | apply IsS64.drewN | apply IsS64.drew | apply IsS64.set_1) | exact HI0.out)), z_HO194, Q_HA_HO194, fun h0_ => absurd ((hoff 12 (by kernel_rfl)).symm.trans h0_) (by decide), Q_X3_, fun h0_ => absurd ((hoff 8 (by kernel_rfl)).symm.trans h0_) (by decide), fun h0_ => absurd ((hoff 13 (by kernel_rfl)).symm.trans h0_) (by decide)⟩
                    refine steps_cons ?_ ?_
                    · rintro b a w' ⟨v181, adz_v181, v187, adz_v187, v193, adz_v193, m3_, m8_, m13_, ha, Q_HI0, Q_HK, Q_HB, Q_HO182, Q_HA_HO182, Q_HI0_e2, Q_HO188, Q_HA_HO188, Q_HI0_e7, Q_HO194, Q_HA_HO194, Q_HI0_e12, Q_X3_, Q_X8_, Q_X13_⟩ hb_ hon hoff
                      refine ⟨_, rfl, fun K hK => ?_⟩
                      have e39 : a.tmps[39]? = some (v187) := by rw [ha]; exact putSel_on (e := (5, 39, v187)) 4 rfl rfl (hon 5 (by kernel_rfl)) rfl
                      have e41 : a.tmps[41]? = some (.int .i64 t189) := by rw [ha]; exact putSel_on (e := (7, 41, .int .i64 t189)) 5 rfl rfl (hon 7 (by kernel_rfl)) rfl
                      replace ha := Aside0.mk ha
                      have HK := Aside0.mk Q_HK
                      have HB := Aside0.mk Q_HB
                      have HO188 := Aside0.mk (Q_HO188 (hon 5 (by kernel_rfl)))
                      have HA_HO188 := Aside0.mk (Q_HA_HO188 (hon 5 (by kernel_rfl)))
                      obtain ⟨c_, hv_⟩ := HA_HO188.out
                      rw [hv_] at e39
                      refine value_ (w1 := w') (v := .pointer (some (adz_v187.add (t189).toNat))) (by rfl) rfl ?_ ?_
                      · go_simp
                        (try simp only [i64_w])
                        try rfl
                      refine hK.out _ _ ⟨v181, adz_v181, v187, adz_v187, v193, adz_v193, m3_, (.pointer (some (adz_v187.add (t189).toNat))), m13_, (by rw [ha.out]; exact putSel_upk 6 hb_ rfl rfl rfl), fun h0_ => absurd ((hon 2 (by kernel_rfl)).symm.trans h0_) (by decide), Q_HK, Q_HB, Q_HO182, Q_HA_HO182, fun _ h1_ => absurd ((hon 7 (by kernel_rfl)).symm.trans h1_) (by decide), Q_HO188, Q_HA_HO188, Q_HI0_e7, Q_HO194, Q_HA_HO194, Q_HI0_e12, Q_X3_, fun _ => rfl, Q_X13_⟩
                    refine steps_cons ?_ ?_
                    · rintro b a w' ⟨v181, adz_v181, v187, adz_v187, v193, adz_v193, m3_, m8_, m13_, ha, Q_HI0, Q_HK, Q_HB, Q_HO182, Q_HA_HO182, Q_HI0_e2, Q_HO188, Q_HA_HO188, Q_HI0_e7, Q_HO194, Q_HA_HO194, Q_HI0_e12, Q_X3_, Q_X8_, Q_X13_⟩ hb_ hon hoff
                      refine ⟨_, rfl, fun K hK => ?_⟩
                      have e42 : a.tmps[42]? = some (m8_) := by rw [ha]; exact putSel_on (e := (8, 42, m8_)) 6 rfl rfl (hon 8 (by kernel_rfl)) rfl
                      rw [Q_X8_ (hon 8 (by kernel_rfl))] at e42
                      replace ha := Aside0.mk ha
                      have HK := Aside0.mk Q_HK
                      have HB := Aside0.mk Q_HB
                      have HO188 := Aside0.mk (Q_HO188 (hon 5 (by kernel_rfl)))
                      have HA_HO188 := Aside0.mk (Q_HA_HO188 (hon 5 (by kernel_rfl)))
                      obtain ⟨c_, hv_⟩ := HA_HO188.out
                      have hF_ := HO188.out
                      rw [hv_] at hF_
                      obtain ⟨ad_, ea_, hx_⟩ := Kd.at_int (Kd.R_reads' hF_).2.2 t189 (of_eq_true pi191) (of_eq_true qi191)
                      cases ea_
                      refine value_ (w1 := w') (v := .int .i64 (rd y186 t189)) (by rfl) rfl ?_ ?_
                      · go_simp
                        (try simp only [i64_w])
                        try rfl
                      refine hK.out _ _ ⟨v181, adz_v181, v187, adz_v187, v193, adz_v193, m3_, m8_, m13_, (by rw [ha.out]; exact putSel_upk 7 hb_ rfl rfl rfl), fun h0_ => absurd ((hon 2 (by kernel_rfl)).symm.trans h0_) (by decide), Q_HK, Q_HB, Q_HO182, Q_HA_HO182, fun _ h1_ => absurd ((hon 7 (by kernel_rfl)).symm.trans h1_) (by decide), Q_HO188, Q_HA_HO188, Q_HI0_e7, Q_HO194, Q_HA_HO194, Q_HI0_e12, Q_X3_, Q_X8_, Q_X13_⟩
                    refine steps_cons ?_ ?_
                    · rintro b a w' ⟨v181, adz_v181, v187, adz_v187, v193, adz_v193, m3_, m8_, m13_, ha, Q_HI0, Q_HK, Q_HB, Q_HO182, Q_HA_HO182, Q_HI0_e2, Q_HO188, Q_HA_HO188, Q_HI0_e7, Q_HO194, Q_HA_HO194, Q_HI0_e12, Q_X3_, Q_X8_, Q_X13_⟩ hb_ hon hoff
                      refine ⟨_, rfl, fun K hK => ?_⟩
                      replace ha := Aside0.mk ha
                      have HK := Aside0.mk Q_HK
                      have HB := Aside0.mk Q_HB
                      refine Kd.R_lit_step (Kd.int .i64) _ 3 ?hg (N := 44) ?hd (xs := ([5, 10, 13] : List Int)) (inner := [.int .i64 5, .int .i64 10, .int .i64 13]) (ok := fun _ => True) (okp := fun _ => True) ?hr ?hp (fun _ hk => hk) trivial (Below.refl _ _) (Nat.le_refl _) (by simp) ?_; (case hd => rfl); (case hg => rfl); (case hr => first | (go_simp; done) | (go_simp; rfl)); (case hp => exact (Reps.one (show Kd.M (Kd.int .i64) _ _ _ 5 [.int .i64 5] from rfl) (Reps.one (show Kd.M (Kd.int .i64) _ _ _ 10 [.int .i64 10] from rfl) (Reps.one (show Kd.M (Kd.int .i64) _ _ _ 13 [.int .i64 13] from rfl) (Reps.none _ _)))))
                      intro v193 w23 ho24 hb hg_ hnew_
                      clear hg_ hnew_
                      (first | rw [← Ny192.out] at ho24 | (simp only [Int.reduceToNat] at ho24; rw [← Ny192.out] at ho24))
                      have n0_ := Aside0.mk (Kd.R_lower ho24 (keep_size (w := w) (g := g) (row := none) (by repeat (first | (with_reducible first | exact HK.out | apply KeepBut.set_ | apply keep_drewN | apply keep_drew | apply keep_alloc) | exact HK.out))))
                      have n2_ := Aside0.mk (KeepBut.trans (by repeat (first | (with_reducible first | exact HK.out | apply KeepBut.set_ | apply keep_drewN | apply keep_drew | apply keep_alloc) | exact HK.out)) (KeepBut.of_below hb g none) (.inl rfl))
                      have n3_ := Aside0.mk (below_step (by repeat (first | (with_reducible first | exact HB.out | apply below_alloc | apply pw_below_drewN | apply below_drew1) | exact HB.out | exact Below.refl _ _)) hb)
                      have z_HI0 := fun (h0_ : b 2 = false) => (show IsS64 w0 w23 g s0_0 x1001_4 from by first | exact (IsS64.below (by repeat (first | (with_reducible first | exact (Q_HI0 h0_) | apply IsS64.alloc | apply IsS64.drewN | apply IsS64.drew | apply IsS64.set_1) | exact (Q_HI0 h0_))) hb))
                      have z_HO182 := fun (h0_ : b 0 = true) => (show Kd.R (Kd.int .i64) 3 w23 w.heap.size (fun _ => True) v181 y180 from by first | exact (Kd.R_elder' (by (with_reducible repeat (first | apply Kd.R_alloc | apply Kd.R_drewN | apply Kd.R_drew)); exact (Q_HO182 h0_)) (Kd.R_base ho24) hb) | exact Kd.R_mono (Kd.R_elder' (by (with_reducible repeat (first | apply Kd.R_alloc | apply Kd.R_drewN | apply Kd.R_drew)); exact (Q_HO182 h0_)) (Kd.R_base ho24) hb) (fun _ h_ => by first | trivial | exact h_ | exact h_.1))
                      have z_HI0_e2 := fun (h0_ : b 2 = true) (h1_ : b 7 = false) => (show IsS64 w0 w23 g s0_0 t184 from by first | exact (IsS64.below (by repeat (first | (with_reducible first | exact (Q_HI0_e2 h0_ h1_) | apply IsS64.alloc | apply IsS64.drewN | apply IsS64.drew | apply IsS64.set_1) | exact (Q_HI0_e2 h0_ h1_))) hb))
                      have z_HO188 := fun (h0_ : b 5 = true) => (show Kd.R (Kd.int .i64) 3 w23 w.heap.size (fun _ => True) v187 y186 from by first | exact (Kd.R_elder' (by (with_reducible repeat (first | apply Kd.R_alloc | apply Kd.R_drewN | apply Kd.R_drew)); exact (Q_HO188 h0_)) (Kd.R_base ho24) hb) | exact Kd.R_mono (Kd.R_elder' (by (with_reducible repeat (first | apply Kd.R_alloc | apply Kd.R_drewN | apply Kd.R_drew)); exact (Q_HO188 h0_)) (Kd.R_base ho24) hb) (fun _ h_ => by first | trivial | exact h_ | exact h_.1))
                      have z_HI0_e7 := fun (h0_ : b 7 = true) (h1_ : b 12 = false) => (show IsS64 w0 w23 g s0_0 t190 from by first | exact (IsS64.below (by repeat (first | (with_reducible first | exact (Q_HI0_e7 h0_ h1_) | apply IsS64.alloc | apply IsS64.drewN | apply IsS64.drew | apply IsS64.set_1) | exact (Q_HI0_e7 h0_ h1_))) hb))
                      have z_HI0_e12 := fun (h0_ : b 12 = true) => (show IsS64 w0 w23 g s0_0 t196 from by first | exact (IsS64.below (by repeat (first | (with_reducible first | exact (Q_HI0_e12 h0_) | apply IsS64.alloc | apply IsS64.drewN | apply IsS64.drew | apply IsS64.set_1) | exact (Q_HI0_e12 h0_))) hb))
                      clear HK
                      try clear HB
                      have HO194 := n0_
                      have HK := n2_
                      have HB := n3_
                      clear n0_ n2_ n3_
                      clear hb ho24
                      obtain ⟨Ao25, co25, eo25⟩ := Kd.R_slice HO194.out
                      subst eo25
                      obtain ⟨ado25, fo25, _⟩ := Kd.at_int (Kd.R_reads' HO194.out).2.2 0 (by decide) (by rw [Ny192.out]; simp)
                      cases fo25
                      refine hK.out _ _ ⟨v181, adz_v181, v187, adz_v187, .slice (some ado25) y192.length co25, ado25, m3_, m8_, m13_, (by rw [ha.out]; exact putSel_upk 8 hb_ rfl rfl rfl), z_HI0, (by repeat (first | (with_reducible first | exact HK.out | apply KeepBut.set_ | apply keep_drewN | apply keep_drew | apply keep_alloc) | exact HK.out)), (by repeat (first | (with_reducible first | exact HB.out | apply below_alloc | apply pw_below_drewN | apply below_drew1) | exact HB.out | exact Below.refl _ _)), z_HO182, Q_HA_HO182, z_HI0_e2, z_HO188, Q_HA_HO188, z_HI0_e7, fun _ => (by (with_reducible repeat (first | apply Kd.R_alloc | apply Kd.R_drewN | apply Kd.R_drew)); exact HO194.out), fun _ => ⟨_, rfl⟩, z_HI0_e12, Q_X3_, Q_X8_, fun h0_ => absurd ((hoff 13 (by kernel_rfl)).symm.trans h0_) (by decide)⟩
                    refine steps_cons ?_ ?_
                    · rintro b a w' ⟨v181, adz_v181, v187, adz_v187, v193, adz_v193, m3_, m8_, m13_, ha, Q_HI0, Q_HK, Q_HB, Q_HO182, Q_HA_HO182, Q_HI0_e2, Q_HO188, Q_HA_HO188, Q_HI0_e7, Q_HO194, Q_HA_HO194, Q_HI0_e12, Q_X3_, Q_X8_, Q_X13_⟩ hb_ hon hoff
                      refine ⟨_, rfl, fun K hK => ?_⟩
                      have e45 : a.tmps[45]? = some (.pointer (some ⟨g, 0, none⟩)) := by rw [ha]; exact (putSel_off rfl).trans rfl
                      replace ha := Aside0.mk ha
                      have HK := Aside0.mk Q_HK
                      have HB := Aside0.mk Q_HB
                      have HI0 := Aside0.mk (Q_HI0_e7 (hon 7 (by kernel_rfl)) hb_)
                      refine goes_ Try.func49 (by kernel_rfl) rfl #[.pointer (some ⟨g, 0, none⟩), .int .i64 3] (by rfl) rfl rfl (by first | (simp only [List.map_toArray, List.map_cons, List.map_nil, Act.eval, Array.getD_eq_getD_getElem?, Option.getD_some, e45]; done) | (simp only [List.map_toArray, List.map_cons, List.map_nil, Act.eval, Array.getD_eq_getD_getElem?, Option.getD_some, e45]; rfl)) ?_
                      with_reducible refine (spec_l6Rd_pick.calls kj4 g s0_0 t190 3 t195 t196 w0 _ ?side1 ?side2 A19.out).mono ?_
                      (case side1 => repeat (first | (with_reducible first | exact HI0.out | apply IsS64.alloc | apply IsS64.drewN | apply IsS64.drew | apply IsS64.set_1) | exact HI0.out))
                      (case side2 => repeat (first | (with_reducible first | exact HB.out | apply below_alloc | apply pw_below_drewN | apply below_drew1 | refine below_set ?_ (IsS64.ge HI0.out)) | exact HB.out))
                      rintro e w26 ⟨rfl, hi, hb, hk⟩
                      refine ⟨_, rfl, ?_⟩
                      have n0_ := Aside0.mk (KeepBut.trans (by repeat (first | (with_reducible first | exact HK.out | apply KeepBut.set_ | apply keep_drewN | apply keep_drew | apply keep_alloc) | exact HK.out)) hk (.inl rfl))
                      have n1_ := Aside0.mk (hb)
                      have n2_ := Aside0.mk (hi)
                      have z_HO182 := fun (h0_ : b 0 = true) => (show Kd.R (Kd.int .i64) 3 w26 w.heap.size (fun _ => True) v181 y180 from by first | exact (Kd.R_mono (Kd.R_keep (IsS64.apart (show IsS64 w0 _ g s0_0 t190 from by repeat (first | (with_reducible first | exact HI0.out | apply IsS64.alloc | apply IsS64.drewN | apply IsS64.drew | apply IsS64.set_1) | exact HI0.out)) (by (with_reducible repeat (first | apply Kd.R_alloc | apply Kd.R_drewN | apply Kd.R_drew)); exact (Q_HO182 h0_)) (by decide)) hk (fun _ h => h.2)) (fun _ h => h.1)) | exact Kd.R_mono (Kd.R_mono (Kd.R_keep (IsS64.apart (show IsS64 w0 _ g s0_0 t190 from by repeat (first | (with_reducible first | exact HI0.out | apply IsS64.alloc | apply IsS64.drewN | apply IsS64.drew | apply IsS64.set_1) | exact HI0.out)) (by (with_reducible repeat (first | apply Kd.R_alloc | apply Kd.R_drewN | apply Kd.R_drew)); exact (Q_HO182 h0_)) (by decide)) hk (fun _ h => h.2)) (fun _ h => h.1)) (fun _ h_ => by first | trivial | exact h_ | exact h_.1))
                      have z_HO188 := fun (h0_ : b 5 = true) => (show Kd.R (Kd.int .i64) 3 w26 w.heap.size (fun _ => True) v187 y186 from by first | exact (Kd.R_mono (Kd.R_keep (IsS64.apart (show IsS64 w0 _ g s0_0 t190 from by repeat (first | (with_reducible first | exact HI0.out | apply IsS64.alloc | apply IsS64.drewN | apply IsS64.drew | apply IsS64.set_1) | exact HI0.out)) (by (with_reducible repeat (first | apply Kd.R_alloc | apply Kd.R_drewN | apply Kd.R_drew)); exact (Q_HO188 h0_)) (by decide)) hk (fun _ h => h.2)) (fun _ h => h.1)) | exact Kd.R_mono (Kd.R_mono (Kd.R_keep (IsS64.apart (show IsS64 w0 _ g s0_0 t190 from by repeat (first | (with_reducible first | exact HI0.out | apply IsS64.alloc | apply IsS64.drewN | apply IsS64.drew | apply IsS64.set_1) | exact HI0.out)) (by (with_reducible repeat (first | apply Kd.R_alloc | apply Kd.R_drewN | apply Kd.R_drew)); exact (Q_HO188 h0_)) (by decide)) hk (fun _ h => h.2)) (fun _ h => h.1)) (fun _ h_ => by first | trivial | exact h_ | exact h_.1))
                      have z_HO194 := fun (h0_ : b 10 = true) => (show Kd.R (Kd.int .i64) 3 w26 w.heap.size (fun _ => True) v193 y192 from by first | exact (Kd.R_mono (Kd.R_keep (IsS64.apart (show IsS64 w0 _ g s0_0 t190 from by repeat (first | (with_reducible first | exact HI0.out | apply IsS64.alloc | apply IsS64.drewN | apply IsS64.drew | apply IsS64.set_1) | exact HI0.out)) (by (with_reducible repeat (first | apply Kd.R_alloc | apply Kd.R_drewN | apply Kd.R_drew)); exact (Q_HO194 h0_)) (by decide)) hk (fun _ h => h.2)) (fun _ h => h.1)) | exact Kd.R_mono (Kd.R_mono (Kd.R_keep (IsS64.apart (show IsS64 w0 _ g s0_0 t190 from by repeat (first | (with_reducible first | exact HI0.out | apply IsS64.alloc | apply IsS64.drewN | apply IsS64.drew | apply IsS64.set_1) | exact HI0.out)) (by (with_reducible repeat (first | apply Kd.R_alloc | apply Kd.R_drewN | apply Kd.R_drew)); exact (Q_HO194 h0_)) (by decide)) hk (fun _ h => h.2)) (fun _ h => h.1)) (fun _ h_ => by first | trivial | exact h_ | exact h_.1))
                      clear HK
                      try clear HB
                      clear HI0
                      have HK := n0_
                      have HB := n1_
                      have HI0 := n2_
                      clear n0_ n1_ n2_
                      (try clear hb)
                      (try clear hb2)
                      (try clear hk)
                      (try clear hi)
                      refine hK.out _ _ ⟨v181, adz_v181, v187, adz_v187, v193, adz_v193, m3_, m8_, m13_, (by rw [ha.out]; exact putSel_upk 9 hb_ rfl rfl rfl), fun h0_ => absurd ((hon 2 (by kernel_rfl)).symm.trans h0_) (by decide), (by repeat (first | (with_reducible first | exact HK.out | apply KeepBut.set_ | apply keep_drewN | apply keep_drew | apply keep_alloc) | exact HK.out)), (by repeat (first | (with_reducible first | exact HB.out | apply below_alloc | apply pw_below_drewN | apply below_drew1 | refine below_set ?_ (IsS64.ge HI0.out)) | exact HB.out)), z_HO182, Q_HA_HO182, fun _ h1_ => absurd ((hon 7 (by kernel_rfl)).symm.trans h1_) (by decide), z_HO188, Q_HA_HO188, fun _ h1_ => absurd ((up_self b 12).symm.trans h1_) (by decide), z_HO194, Q_HA_HO194, fun _ => (by repeat (first | (with_reducible first | exact HI0.out | apply IsS64.alloc | apply IsS64.drewN | apply IsS64.drew | apply IsS64.set_1) | exact HI0.out)), Q_X3_, Q_X8_, fun h0_ => absurd ((hoff 13 (by kernel_rfl)).symm.trans h0_) (by decide)⟩
                    refine steps_cons ?_ ?_
                    · rintro b a w' ⟨v181, adz_v181, v187, adz_v187, v193, adz_v193, m3_, m8_, m13_, ha, Q_HI0, Q_HK, Q_HB, Q_HO182, Q_HA_HO182, Q_HI0_e2, Q_HO188, Q_HA_HO188, Q_HI0_e7, Q_HO194, Q_HA_HO194, Q_HI0_e12, Q_X3_, Q_X8_, Q_X13_⟩ hb_ hon hoff
                      refine ⟨_, rfl, fun K hK => ?_⟩
                      have e44 : a.tmps[44]? = some (v193) := by rw [ha]; exact putSel_on (e := (10, 44, v193)) 8 rfl rfl (hon 10 (by kernel_rfl)) rfl
                      have e46 : a.tmps[46]? = some (.int .i64 t195) := by rw [ha]; exact putSel_on (e := (12, 46, .int .i64 t195)) 9 rfl rfl (hon 12 (by kernel_rfl)) rfl
                      replace ha := Aside0.mk ha
                      have HK := Aside0.mk Q_HK
                      have HB := Aside0.mk Q_HB
                      have HO194 := Aside0.mk (Q_HO194 (hon 10 (by kernel_rfl)))
                      have HA_HO194 := Aside0.mk (Q_HA_HO194 (hon 10 (by kernel_rfl)))
                      have HI0 := Aside0.mk (Q_HI0_e12 (hon 12 (by kernel_rfl)))
                      obtain ⟨c_, hv_⟩ := HA_HO194.out
                      rw [hv_] at e44
                      refine value_ (w1 := w') (v := .pointer (some (adz_v193.add (t195).toNat))) (by rfl) rfl ?_ ?_
                      · go_simp
                        (try simp only [i64_w])
                        try rfl
                      refine hK.out _ _ ⟨v181, adz_v181, v187, adz_v187, v193, adz_v193, m3_, m8_, (.pointer (some (adz_v193.add (t195).toNat))), (by rw [ha.out]; exact putSel_upk 10 hb_ rfl rfl rfl), fun h0_ => absurd ((hon 2 (by kernel_rfl)).symm.trans h0_) (by decide), Q_HK, Q_HB, Q_HO182, Q_HA_HO182, fun _ h1_ => absurd ((hon 7 (by kernel_rfl)).symm.trans h1_) (by decide), Q_HO188, Q_HA_HO188, fun _ h1_ => absurd ((hon 12 (by kernel_rfl)).symm.trans h1_) (by decide), Q_HO194, Q_HA_HO194, Q_HI0_e12, Q_X3_, Q_X8_, fun _ => rfl⟩
                    refine steps_cons ?_ ?_
                    · rintro b a w' ⟨v181, adz_v181, v187, adz_v187, v193, adz_v193, m3_, m8_, m13_, ha, Q_HI0, Q_HK, Q_HB, Q_HO182, Q_HA_HO182, Q_HI0_e2, Q_HO188, Q_HA_HO188, Q_HI0_e7, Q_HO194, Q_HA_HO194, Q_HI0_e12, Q_X3_, Q_X8_, Q_X13_⟩ hb_ hon hoff
                      refine ⟨_, rfl, fun K hK => ?_⟩
                      have e47 : a.tmps[47]? = some (m13_) := by rw [ha]; exact putSel_on (e := (13, 47, m13_)) 10 rfl rfl (hon 13 (by kernel_rfl)) rfl
                      rw [Q_X13_ (hon 13 (by kernel_rfl))] at e47
                      replace ha := Aside0.mk ha
                      have HK := Aside0.mk Q_HK
                      have HB := Aside0.mk Q_HB
                      have HO194 := Aside0.mk (Q_HO194 (hon 10 (by kernel_rfl)))
                      have HA_HO194 := Aside0.mk (Q_HA_HO194 (hon 10 (by kernel_rfl)))
                      have HI0 := Aside0.mk (Q_HI0_e12 (hon 12 (by kernel_rfl)))
                      obtain ⟨c_, hv_⟩ := HA_HO194.out
                      have hF_ := HO194.out
                      rw [hv_] at hF_
                      obtain ⟨ad_, ea_, hx_⟩ := Kd.at_int (Kd.R_reads' hF_).2.2 t195 (of_eq_true pi197) (of_eq_true qi197)
                      cases ea_
                      refine value_ (w1 := w') (v := .int .i64 (rd y192 t195)) (by rfl) rfl ?_ ?_
                      · go_simp
                        (try simp only [i64_w])
                        try rfl
                      refine hK.out _ _ ⟨v181, adz_v181, v187, adz_v187, v193, adz_v193, m3_, m8_, m13_, (by rw [ha.out]; exact putSel_upk 11 hb_ rfl rfl rfl), fun h0_ => absurd ((hon 2 (by kernel_rfl)).symm.trans h0_) (by decide), Q_HK, Q_HB, Q_HO182, Q_HA_HO182, fun _ h1_ => absurd ((hon 7 (by kernel_rfl)).symm.trans h1_) (by decide), Q_HO188, Q_HA_HO188, fun _ h1_ => absurd ((hon 12 (by kernel_rfl)).symm.trans h1_) (by decide), Q_HO194, Q_HA_HO194, Q_HI0_e12, Q_X3_, Q_X8_, Q_X13_⟩
                    refine steps_cons ?_ ?_
                    · rintro b a w' ⟨v181, adz_v181, v187, adz_v187, v193, adz_v193, m3_, m8_, m13_, ha, Q_HI0, Q_HK, Q_HB, Q_HO182, Q_HA_HO182, Q_HI0_e2, Q_HO188, Q_HA_HO188, Q_HI0_e7, Q_HO194, Q_HA_HO194, Q_HI0_e12, Q_X3_, Q_X8_, Q_X13_⟩ hb_ hon hoff
                      refine ⟨_, rfl, fun K hK => ?_⟩
                      have e38 : a.tmps[38]? = some (.int .i64 (rd y180 t183)) := by rw [ha]; exact putSel_on (e := (4, 38, .int .i64 (rd y180 t183))) 3 rfl rfl (hon 4 (by kernel_rfl)) rfl
                      replace ha := Aside0.mk ha
                      have HK := Aside0.mk Q_HK
                      have HB := Aside0.mk Q_HB
                      have HO182 := Aside0.mk (Q_HO182 (hon 0 (by kernel_rfl)))
                      have HA_HO182 := Aside0.mk (Q_HA_HO182 (hon 0 (by kernel_rfl)))
                      have HI0 := Aside0.mk (Q_HI0_e12 (hon 12 (by kernel_rfl)))
                      refine value_ (w1 := w') (v := .int .i64 (rd y180 t183)) (by rfl) rfl ?_ ?_
                      · go_simp
                        (try simp only [i64_w])
                        try rfl
                      refine hK.out _ _ ⟨v181, adz_v181, v187, adz_v187, v193, adz_v193, m3_, m8_, m13_, (by rw [ha.out]; exact putSel_upk 12 hb_ rfl rfl rfl), fun h0_ => absurd ((hon 2 (by kernel_rfl)).symm.trans h0_) (by decide), Q_HK, Q_HB, Q_HO182, Q_HA_HO182, fun _ h1_ => absurd ((hon 7 (by kernel_rfl)).symm.trans h1_) (by decide), Q_HO188, Q_HA_HO188, fun _ h1_ => absurd ((hon 12 (by kernel_rfl)).symm.trans h1_) (by decide), Q_HO194, Q_HA_HO194, Q_HI0_e12, Q_X3_, Q_X8_, Q_X13_⟩
                    refine steps_cons ?_ ?_
                    · rintro b a w' ⟨v181, adz_v181, v187, adz_v187, v193, adz_v193, m3_, m8_, m13_, ha, Q_HI0, Q_HK, Q_HB, Q_HO182, Q_HA_HO182, Q_HI0_e2, Q_HO188, Q_HA_HO188, Q_HI0_e7, Q_HO194, Q_HA_HO194, Q_HI0_e12, Q_X3_, Q_X8_, Q_X13_⟩ hb_ hon hoff
                      refine ⟨_, rfl, fun K hK => ?_⟩
                      have e43 : a.tmps[43]? = some (.int .i64 (rd y186 t189)) := by rw [ha]; exact putSel_on (e := (9, 43, .int .i64 (rd y186 t189))) 7 rfl rfl (hon 9 (by kernel_rfl)) rfl
                      replace ha := Aside0.mk ha
                      have HK := Aside0.mk Q_HK
                      have HB := Aside0.mk Q_HB
                      have HO182 := Aside0.mk (Q_HO182 (hon 0 (by kernel_rfl)))
                      have HA_HO182 := Aside0.mk (Q_HA_HO182 (hon 0 (by kernel_rfl)))
                      have HO188 := Aside0.mk (Q_HO188 (hon 5 (by kernel_rfl)))
                      have HA_HO188 := Aside0.mk (Q_HA_HO188 (hon 5 (by kernel_rfl)))
                      have HI0 := Aside0.mk (Q_HI0_e12 (hon 12 (by kernel_rfl)))
                      refine value_ (w1 := w') (v := .int .i64 (rd y186 t189)) (by rfl) rfl ?_ ?_
                      · go_simp
                        (try simp only [i64_w])
                        try rfl
                      refine hK.out _ _ ⟨v181, adz_v181, v187, adz_v187, v193, adz_v193, m3_, m8_, m13_, (by rw [ha.out]; exact putSel_upk 13 hb_ rfl rfl rfl), fun h0_ => absurd ((hon 2 (by kernel_rfl)).symm.trans h0_) (by decide), Q_HK, Q_HB, Q_HO182, Q_HA_HO182, fun _ h1_ => absurd ((hon 7 (by kernel_rfl)).symm.trans h1_) (by decide), Q_HO188, Q_HA_HO188, fun _ h1_ => absurd ((hon 12 (by kernel_rfl)).symm.trans h1_) (by decide), Q_HO194, Q_HA_HO194, Q_HI0_e12, Q_X3_, Q_X8_, Q_X13_⟩
                    refine steps_cons ?_ ?_
                    · rintro b a w' ⟨v181, adz_v181, v187, adz_v187, v193, adz_v193, m3_, m8_, m13_, ha, Q_HI0, Q_HK, Q_HB, Q_HO182, Q_HA_HO182, Q_HI0_e2, Q_HO188, Q_HA_HO188, Q_HI0_e7, Q_HO194, Q_HA_HO194, Q_HI0_e12, Q_X3_, Q_X8_, Q_X13_⟩ hb_ hon hoff
                      refine ⟨_, rfl, fun K hK => ?_⟩
                      have e48 : a.tmps[48]? = some (.int .i64 (rd y192 t195)) := by rw [ha]; exact putSel_on (e := (14, 48, .int .i64 (rd y192 t195))) 11 rfl rfl (hon 14 (by kernel_rfl)) rfl
                      replace ha := Aside0.mk ha
                      have HK := Aside0.mk Q_HK
                      have HB := Aside0.mk Q_HB
                      have HO182 := Aside0.mk (Q_HO182 (hon 0 (by kernel_rfl)))
                      have HA_HO182 := Aside0.mk (Q_HA_HO182 (hon 0 (by kernel_rfl)))
                      have HO188 := Aside0.mk (Q_HO188 (hon 5 (by kernel_rfl)))
                      have HA_HO188 := Aside0.mk (Q_HA_HO188 (hon 5 (by kernel_rfl)))
                      have HO194 := Aside0.mk (Q_HO194 (hon 10 (by kernel_rfl)))
                      have HA_HO194 := Aside0.mk (Q_HA_HO194 (hon 10 (by kernel_rfl)))
                      have HI0 := Aside0.mk (Q_HI0_e12 (hon 12 (by kernel_rfl)))
                      refine value_ (w1 := w') (v := .int .i64 (rd y192 t195)) (by rfl) rfl ?_ ?_
                      · go_simp
                        (try simp only [i64_w])
                        try rfl
                      refine hK.out _ _ ⟨v181, adz_v181, v187, adz_v187, v193, adz_v193, m3_, m8_, m13_, (by rw [ha.out]; exact putSel_upk 14 hb_ rfl rfl rfl), fun h0_ => absurd ((hon 2 (by kernel_rfl)).symm.trans h0_) (by decide), Q_HK, Q_HB, Q_HO182, Q_HA_HO182, fun _ h1_ => absurd ((hon 7 (by kernel_rfl)).symm.trans h1_) (by decide), Q_HO188, Q_HA_HO188, fun _ h1_ => absurd ((hon 12 (by kernel_rfl)).symm.trans h1_) (by decide), Q_HO194, Q_HA_HO194, Q_HI0_e12, Q_X3_, Q_X8_, Q_X13_⟩
                    exact steps_nil
                  rintro b a w35 hall ⟨v181, adz_v181, v187, adz_v187, v193, adz_v193, m3_, m8_, m13_, ha, Q_HI0, Q_HK, Q_HB, Q_HO182, Q_HA_HO182, Q_HI0_e2, Q_HO188, Q_HA_HO188, Q_HI0_e7, Q_HO194, Q_HA_HO194, Q_HI0_e12, Q_X3_, Q_X8_, Q_X13_⟩
                  clear HB HI0 HK
                  have hb0_ := hall 0 (by kernel_rfl)
                  have hb2_ := hall 2 (by kernel_rfl)
                  have hb3_ := hall 3 (by kernel_rfl)
                  have hb4_ := hall 4 (by kernel_rfl)
                  have hb5_ := hall 5 (by kernel_rfl)
                  have hb7_ := hall 7 (by kernel_rfl)
                  have hb8_ := hall 8 (by kernel_rfl)
                  have hb9_ := hall 9 (by kernel_rfl)
                  have hb10_ := hall 10 (by kernel_rfl)
                  have hb12_ := hall 12 (by kernel_rfl)
                  have hb13_ := hall 13 (by kernel_rfl)
                  have hb14_ := hall 14 (by kernel_rfl)
                  have hb15_ := hall 15 (by kernel_rfl)
                  have hb16_ := hall 16 (by kernel_rfl)
                  have hb17_ := hall 17 (by kernel_rfl)
                  subst ha
                  obtain rfl := Q_X3_ hb3_
                  obtain rfl := Q_X8_ hb8_
                  obtain rfl := Q_X13_ hb13_
                  simp only [putSel, hb0_, hb2_, hb3_, hb4_, hb5_, hb7_, hb8_, hb9_, hb10_, hb12_, hb13_, hb14_, hb15_, hb16_, hb17_, if_true, Act.put, List.setIfInBounds_toArray, List.set_cons_zero, List.set_cons_succ]
                  clear Q_HI0
                  have HK := Aside0.mk Q_HK
                  clear Q_HK
                  have HB := Aside0.mk Q_HB
                  clear Q_HB
                  have HO182 := Aside0.mk (Q_HO182 hb0_)
                  clear Q_HO182
                  have HA_HO182 := Aside0.mk (Q_HA_HO182 hb0_)
                  clear Q_HA_HO182
                  clear Q_HI0_e2
                  have HO188 := Aside0.mk (Q_HO188 hb5_)
                  clear Q_HO188
                  have HA_HO188 := Aside0.mk (Q_HA_HO188 hb5_)
                  clear Q_HA_HO188
                  clear Q_HI0_e7
                  have HO194 := Aside0.mk (Q_HO194 hb10_)
                  clear Q_HO194
                  have HA_HO194 := Aside0.mk (Q_HA_HO194 hb10_)
                  clear Q_HA_HO194
                  have HI0 := Aside0.mk (Q_HI0_e12 hb12_)
                  clear Q_HI0_e12
                  clear hall hb0_ hb2_ hb3_ hb4_ hb5_ hb7_ hb8_ hb9_ hb10_ hb12_ hb13_ hb14_ hb15_ hb16_ hb17_
                  obtain ⟨co36, eo36⟩ := HA_HO182.out
                  clear HA_HO182
                  subst eo36
                  obtain ⟨co37, eo37⟩ := HA_HO188.out
                  clear HA_HO188
                  subst eo37
                  obtain ⟨co38, eo38⟩ := HA_HO194.out
                  clear HA_HO194
                  subst eo38
                  try go_wp2
                  go_ret3
                  exact ⟨by first | rfl | (simp [errW_none, errW_some] <;> rfl) | (simp [*, errW_none, errW_some] <;> rfl), by repeat (first | (with_reducible first | exact HI0.out | apply IsS64.alloc | apply IsS64.drewN | apply IsS64.drew | apply IsS64.set_1) | exact HI0.out), by repeat (first | (with_reducible first | exact HB.out | apply below_alloc | apply pw_below_drewN | apply below_drew1 | refine below_set ?_ (IsS64.ge HI0.out)) | exact HB.out), by repeat (first | (with_reducible first | exact HK.out | apply KeepBut.set_ | apply keep_drewN | apply keep_drew | apply keep_alloc) | exact HK.out)⟩
                rw [if_neg c21] at H
                exact absurd H (by simp)
              rw [if_neg c20] at H
              exact absurd H (by simp)
            rw [if_neg c18] at H
            exact absurd H (by simp)
          rw [if_neg c17] at H
          exact absurd H (by simp)
        rw [if_neg c15] at H
        exact absurd H (by simp)
      rw [if_neg c14] at H
      exact absurd H (by simp)

end Go.Proofs.Ytpmhninmblgjoaa.PFnChild
