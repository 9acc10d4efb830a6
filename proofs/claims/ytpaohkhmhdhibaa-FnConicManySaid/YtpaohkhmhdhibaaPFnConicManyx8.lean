-- Written by a program of this session (wip/print2.py): the functions that the law reaches, plain, and the walks.
import Derived.Test.YtpaohkhmhdhibaaPFnConicManyx0
import Derived.Test.YtpaohkhmhdhibaaPFnConicManyx7
namespace Go.Proofs.Ytpaohkhmhdhibaa.PFnConicMany
open Go.RowKit Go.Proofs.YtpaohkhmhdhibaaW.PrintWords Go.Proofs.YtpaohkhmhdhibaaW.PrintLast Go.Proofs.YtpaohkhmhdhibaaW.PrintMore
attribute [local go_sem] max2_int min2_int max_two min_two max_three min_three max_four min_four   -- for this text's walks alone
set_option linter.unusedVariables false
set_option linter.unusedSimpArgs false

/-! ### spec_l5Two: function 72 -/
def spec_l5Two.l0 : Nat → List Int → Int → Option (Int × Int)
  | 0, _, _ => none
  | k + 1, x0, x4 => if x4 ≥ 0 then (if 0 ≤ (Int.tmod (wrap64 (x4 + 1)) 3) then (if (Int.tmod (wrap64 (x4 + 1)) 3) < (x0.length : Int) then (if 0 ≤ (Int.tmod (wrap64 (x4 + 2)) 3) then (if (Int.tmod (wrap64 (x4 + 2)) 3) < (x0.length : Int) then ((spec_l1Gcd.f k (rd x0 (Int.tmod (wrap64 (x4 + 1)) 3)) (rd x0 (Int.tmod (wrap64 (x4 + 2)) 3))).bind fun t278 => (if t278 > 1 then ((spec_l1Primes.f k t278).bind fun t279 => (if 0 < (t279.length : Int) then (some (rd t279 0, x4)) else (none))) else (spec_l5Two.l0 k x0 (wrap64 (x4 - 1))))) else (none)) else (none)) else (none)) else (none)) else (some (1, 0))
def spec_l5Two.f (k : Nat) (l0 : List Int) : Option (Int × Int) := spec_l5Two.l0 k l0 2
theorem spec_l5Two.mono_l : ∀ k, (∀ y0 y1, LeO (spec_l5Two.l0 k y0 y1) (spec_l5Two.l0 (k + 1) y0 y1))
  | 0 => fun _ _ r h => by simp [spec_l5Two.l0] at h
  | k + 1 => by
    have ih0 := spec_l5Two.mono_l k
    · intro y0 y1
      unfold spec_l5Two.l0
      repeat' first
      | (with_reducible exact ih0 _ _)
      | (with_reducible exact spec_l1Gcd.mono _ _ _)
      | (with_reducible exact spec_l1Primes.mono _ _)
      | (with_reducible exact LeO.refl _)
      | (with_reducible exact LeO.none _)
      | (with_reducible refine LeO.ite ?_ ?_)
      | (with_reducible refine LeO.bind ?_ (fun _ => ?_))
      | exact ih0 _ _
      | exact spec_l1Gcd.mono _ _ _
      | exact spec_l1Primes.mono _ _
      | exact LeO.none _
      | refine LeO.ite ?_ ?_
      | refine LeO.bind ?_ (fun _ => ?_)
theorem spec_l5Two.mono : ∀ a0 k, LeO (spec_l5Two.f k a0) (spec_l5Two.f (k + 1) a0) := by
  intro a0 k
  have ih0 := spec_l5Two.mono_l k
  unfold spec_l5Two.f
  repeat' first
      | (with_reducible exact ih0 _ _)
      | (with_reducible exact spec_l1Gcd.mono _ _ _)
      | (with_reducible exact spec_l1Primes.mono _ _)
      | (with_reducible exact LeO.refl _)
      | (with_reducible exact LeO.none _)
      | (with_reducible refine LeO.ite ?_ ?_)
      | (with_reducible refine LeO.bind ?_ (fun _ => ?_))
      | exact ih0 _ _
      | exact spec_l1Gcd.mono _ _ _
      | exact spec_l1Primes.mono _ _
      | exact LeO.none _
      | refine LeO.ite ?_ ?_
      | refine LeO.bind ?_ (fun _ => ?_)
def spec_l5Two.T4 : Bool × List (List Nat × List Nat) := (true, [([], []), ([], []), ([1], [1]), ([2], [2]), ([0, 3], [0, 3]), ([4], [4]), ([], []), ([], []), ([7], [7]), ([8], [8]), ([6, 9], [6, 9]), ([10], [10]), ([5, 11], [5, 11]), ([12, 12, 0, 1, 2, 3, 4, 5, 6, 7, 8, 9, 10, 11, 12], [12])])
def spec_l5Two.B4 : List Nat := [0, 0, 2, 6, 15, 31, 0, 0, 128, 384, 960, 1984, 4095, 8191]
theorem spec_l5Two.tab4 : rtab .any (opsOf Try.f72 4) = spec_l5Two.T4 := by kernel_rfl
theorem spec_l5Two.bits4 : waitsOk spec_l5Two.T4.2 spec_l5Two.B4 = true := by kernel_rfl
set_option maxHeartbeats 8000000 in
set_option maxRecDepth 100000 in
theorem spec_l5Two.calls (k : Nat) (A0 : Option Addr) (c0 : Nat) (l0 : List Int) (r1 : Int) (r2 : Int) (w : World) (hr0 : Kd.C (Kd.int .i64) w A0 l0.length l0) (hc0 : l0.length ≤ c0) (h : spec_l5Two.f k l0 = some (r1, r2)) :
    Calls Try.prog 72 #[.slice A0 l0.length c0] w fun e w' => e = .returned (.tuple #[.int .i64 r1, .int .i64 r2]) ∧ Below w.heap.size w w' := by
  have HR0 := Aside0.mk hr0; have HC0 := Aside0.mk hc0; clear hr0 hc0; have HB := Aside0.mk (Below.refl w.heap.size w); unfold spec_l5Two.f at h; have H := h; clear h; have H' := Aside0.mk H; clear H; go_enter Try.func72, Try.ntmps72
  go_wp2
  go_loopg [4] k (fun kq v4 w' => ∃ (x4_1 : Int), v4 = .int .i64 x4_1 ∧ Aside0 (spec_l5Two.l0 kq l0 x4_1 = some (r1, r2)) ∧ Aside0 (kq ≤ k) ∧ Aside0 (Below w.heap.size w w'))
  case atStart => exact ⟨(2), sR, H', ⟨Nat.le_refl _⟩, ⟨BU⟩⟩
  case round =>
    clear H'; obtain ⟨x4_1, rfl, HA, HK1, HB⟩ := hrel; cases gk with
    | zero => exact absurd HA.out (by simp [spec_l5Two.l0])
    | succ k1 =>
      have H := HA.out; clear HA; simp only [spec_l5Two.l0] at H
      by_cases c2 : x4_1 ≥ 0
      · rw [if_pos c2] at H
        have c2b0 : decide (0 ≤ x4_1) = true := decide_eq_true c2; clear c2; obtain ⟨ji3, hji3⟩ : ∃ j_ : Int, (Int.tmod (wrap64 (x4_1 + 1)) 3) = j_ := ⟨_, rfl⟩
        replace H : (if 0 ≤ (ji3) then (if (ji3) < (l0.length : Int) then (if 0 ≤ (Int.tmod (wrap64 (x4_1 + 2)) 3) then (if (Int.tmod (wrap64 (x4_1 + 2)) 3) < (l0.length : Int) then ((spec_l1Gcd.f k1 (rd l0 (ji3)) (rd l0 (Int.tmod (wrap64 (x4_1 + 2)) 3))).bind fun t278 => (if t278 > 1 then ((spec_l1Primes.f k1 t278).bind fun t279 => (if 0 < (t279.length : Int) then (some (rd t279 0, x4_1)) else (none))) else (spec_l5Two.l0 k1 l0 (wrap64 (x4_1 - 1))))) else (none)) else (none)) else (none)) else (none)) = some (r1, r2) := by first | (rw [hji3] at H; exact H) | (simp only [hji3] at H ⊢; exact H)
        obtain ⟨c4, H⟩ := ifN H; have c4b0 : decide (0 ≤ (ji3)) = true := decide_eq_true c4; clear c4; obtain ⟨c5, H⟩ := ifN H; have c5b0 : decide ((ji3) < (l0.length : Int)) = true := decide_eq_true c5; clear c5; obtain ⟨ji6, hji6⟩ : ∃ j_ : Int, (Int.tmod (wrap64 (x4_1 + 2)) 3) = j_ := ⟨_, rfl⟩
        replace H : (if 0 ≤ (ji6) then (if (ji6) < (l0.length : Int) then ((spec_l1Gcd.f k1 (rd l0 (ji3)) (rd l0 (ji6))).bind fun t278 => (if t278 > 1 then ((spec_l1Primes.f k1 t278).bind fun t279 => (if 0 < (t279.length : Int) then (some (rd t279 0, x4_1)) else (none))) else (spec_l5Two.l0 k1 l0 (wrap64 (x4_1 - 1))))) else (none)) else (none)) = some (r1, r2) := by first | (rw [hji6] at H; exact H) | (simp only [hji6] at H ⊢; exact H)
        obtain ⟨c7, H⟩ := ifN H; have c7b0 : decide (0 ≤ (ji6)) = true := decide_eq_true c7; clear c7; obtain ⟨c8, H⟩ := ifN H; have c8b0 : decide ((ji6) < (l0.length : Int)) = true := decide_eq_true c8; clear c8; obtain ⟨t278, A9, H⟩ := bnd H
        by_cases c10 : t278 > 1
        · rw [if_pos c10] at H
          have c10b0 : decide (1 < t278) = true := decide_eq_true c10; clear c10; obtain ⟨t279, A11, H⟩ := bnd H; obtain ⟨c12, H⟩ := ifN H; have c12b0 : decide (0 < (t279.length : Int)) = true := decide_eq_true c12; have c12b1 : decide (0 < t279.length) = true := decide_eq_true (by omega); clear c12; simp only [Option.some.injEq, Prod.mk.injEq] at H; obtain ⟨rfl, rfl⟩ := H
          try go_wp2
          replace HB := Aside0.mk (below_drew1 HB.out); have p276 : 0 ≤ ((ji3) : Int) := oD; have q276 : (ji3) < (l0.length : Int) := oD; obtain ⟨ad276, e276, hx276_0⟩ := Kd.at_int HR0.out (ji3) p276 q276; have hw276_0 := hx276_0; cases e276; replace hx276_0 := (HB.out.cell (World.block_lt_of_cell? w _ hx276_0)).trans hx276_0; replace p276 := eq_true p276; replace q276 := eq_true q276; have p277 : 0 ≤ ((ji6) : Int) := oD; have q277 : (ji6) < (l0.length : Int) := oD; obtain ⟨ad277, e277, hx277_0⟩ := Kd.at_int HR0.out (ji6) p277 q277; have hw277_0 := hx277_0; obtain rfl : ad276 = ad277 := (by injection e277); replace hx277_0 := (HB.out.cell (World.block_lt_of_cell? w _ hx277_0)).trans hx277_0; replace p277 := eq_true p277; replace q277 := eq_true q277
          refine start_ (n := 14) (S := fun w' => w'.cell? (ad276.add ((ji3)).toNat) = some (.int .i64 (rd l0 (ji3))) ∧ w'.cell? (ad276.add ((ji6)).toNat) = some (.int .i64 (rd l0 (ji6)))) (ds := []) #[false, false, false, false, false, false, false, false, false, false, false, false, false, false] (by kernel_rfl) rfl rfl ⟨((HB.out.cell (World.block_lt_of_cell? w _ hw276_0)).trans hw276_0), ((HB.out.cell (World.block_lt_of_cell? w _ hw277_0)).trans hw277_0)⟩ (fun hHeld => ?_); refine with_tabW spec_l5Two.tab4 spec_l5Two.bits4 (fun HT_ HW_ => ?_)
          generalize wr.drew = w13 at HB hx276_0 hx277_0 hHeld ⊢
          refine pure_ (i := 0) (N := some 10) (v := ?_) (a' := ?_) #[true, false, false, false, false, false, false, false, false, false, false, false, false, false] rfl rfl (any_of HT_.out (by kernel_rfl)) (fun _ _ _ h => h) (Or.inl ⟨by rfl, ?_⟩) ?_ ?_
          rotate_left
          · intro w'
            go_simp
            with_reducible rfl
          rotate_left
          · simp only [Act.put, List.setIfInBounds_toArray, List.set_cons_zero, List.set_cons_succ, i64_w, i32_w]
            rfl
          refine pure_ (i := 1) (N := some 11) (v := ?_) (a' := ?_) #[true, true, false, false, false, false, false, false, false, false, false, false, false, false] rfl rfl (any_of HT_.out (by kernel_rfl)) (fun _ _ _ h => h) (Or.inl ⟨by rfl, ?_⟩) ?_ ?_
          rotate_left
          · intro w'
            go_simp
            with_reducible rfl
          rotate_left
          · simp only [Act.put, List.setIfInBounds_toArray, List.set_cons_zero, List.set_cons_succ, i64_w, i32_w]
            rfl
          refine pure_ (i := 2) (N := some 12) (v := ?_) (a' := ?_) #[true, true, true, false, false, false, false, false, false, false, false, false, false, false] rfl rfl (any_of HT_.out (by kernel_rfl)) (fun _ _ _ h => h) (Or.inl ⟨by rfl, ?_⟩) ?_ ?_
          rotate_left
          · intro w'
            go_simp
            with_reducible rfl
          rotate_left
          · simp only [Act.put, List.setIfInBounds_toArray, List.set_cons_zero, List.set_cons_succ, i64_w, i32_w]
            rfl
          refine pure_ (i := 3) (N := some 13) (v := ?_) (a' := ?_) #[true, true, true, true, false, false, false, false, false, false, false, false, false, false] rfl rfl (any_of HT_.out (by kernel_rfl)) (fun _ _ _ h => h) (Or.inl ⟨by rfl, ?_⟩) ?_ ?_
          rotate_left
          · intro w'
            go_simp
            with_reducible rfl
          rotate_left
          · simp only [Act.put, List.setIfInBounds_toArray, List.set_cons_zero, List.set_cons_succ, i64_w, i32_w]
            rfl
          refine pure_ (i := 4) (N := some 14) (v := ?_) (a' := ?_) #[true, true, true, true, true, false, false, false, false, false, false, false, false, false] rfl rfl (any_of HT_.out (by kernel_rfl)) (fun _ _ _ h => h) (Or.inl ⟨by rfl, ?_⟩) ?_ ?_
          rotate_left
          · intro w'
            go_simp
            with_reducible rfl
          rotate_left
          · simp only [Act.put, List.setIfInBounds_toArray, List.set_cons_zero, List.set_cons_succ, i64_w, i32_w]
            rfl
          refine pure_ (i := 6) (N := some 16) (v := ?_) (a' := ?_) #[true, true, true, true, true, false, true, false, false, false, false, false, false, false] rfl rfl (any_of HT_.out (by kernel_rfl)) (fun _ _ _ h => h) (Or.inl ⟨by rfl, ?_⟩) ?_ ?_
          rotate_left
          · intro w'
            go_simp
            with_reducible rfl
          rotate_left
          · simp only [Act.put, List.setIfInBounds_toArray, List.set_cons_zero, List.set_cons_succ, i64_w, i32_w]
            rfl
          refine pure_ (i := 7) (N := some 17) (v := ?_) (a' := ?_) #[true, true, true, true, true, false, true, true, false, false, false, false, false, false] rfl rfl (any_of HT_.out (by kernel_rfl)) (fun _ _ _ h => h) (Or.inl ⟨by rfl, ?_⟩) ?_ ?_
          rotate_left
          · intro w'
            go_simp
            with_reducible rfl
          rotate_left
          · simp only [Act.put, List.setIfInBounds_toArray, List.set_cons_zero, List.set_cons_succ, i64_w, i32_w]
            rfl
          refine pure_ (i := 8) (N := some 18) (v := ?_) (a' := ?_) #[true, true, true, true, true, false, true, true, true, false, false, false, false, false] rfl rfl (any_of HT_.out (by kernel_rfl)) (fun _ _ _ h => h) (Or.inl ⟨by rfl, ?_⟩) ?_ ?_
          rotate_left
          · intro w'
            go_simp
            with_reducible rfl
          rotate_left
          · simp only [Act.put, List.setIfInBounds_toArray, List.set_cons_zero, List.set_cons_succ, i64_w, i32_w]
            rfl
          refine pure_ (i := 9) (N := some 19) (v := ?_) (a' := ?_) #[true, true, true, true, true, false, true, true, true, true, false, false, false, false] rfl rfl (any_of HT_.out (by kernel_rfl)) (fun _ _ _ h => h) (Or.inl ⟨by rfl, ?_⟩) ?_ ?_
          rotate_left
          · intro w'
            go_simp
            with_reducible rfl
          rotate_left
          · simp only [Act.put, List.setIfInBounds_toArray, List.set_cons_zero, List.set_cons_succ, i64_w, i32_w]
            rfl
          refine pure_ (i := 10) (N := some 20) (v := ?_) (a' := ?_) #[true, true, true, true, true, false, true, true, true, true, true, false, false, false] rfl rfl (any_of HT_.out (by kernel_rfl)) (fun _ _ _ h => h) (Or.inl ⟨by rfl, ?_⟩) ?_ ?_
          rotate_left
          · intro w'
            go_simp
            with_reducible rfl
          rotate_left
          · simp only [Act.put, List.setIfInBounds_toArray, List.set_cons_zero, List.set_cons_succ, i64_w, i32_w]
            rfl
          refine take_ (i := 5) (N := some 15) (v := ?_) (a' := ?_) #[true, true, true, true, true, true, true, true, true, true, true, false, false, false] rfl rfl (take_ofW HT_.out HW_.out (by kernel_rfl)) (fun _ _ _ h => h) (Or.inl ⟨by rfl, ?_⟩) hHeld ?_ ?_
          rotate_left
          · rintro w' ⟨s0, s1⟩
            go_simp
            with_reducible rfl
          rotate_left
          · simp only [Act.put, List.setIfInBounds_toArray, List.set_cons_zero, List.set_cons_succ, i64_w, i32_w]
            rfl
          refine take_ (i := 11) (N := some 21) (v := ?_) (a' := ?_) #[true, true, true, true, true, true, true, true, true, true, true, true, false, false] rfl rfl (take_ofW HT_.out HW_.out (by kernel_rfl)) (fun _ _ _ h => h) (Or.inl ⟨by rfl, ?_⟩) hHeld ?_ ?_
          rotate_left
          · rintro w' ⟨s0, s1⟩
            go_simp
            with_reducible rfl
          rotate_left
          · simp only [Act.put, List.setIfInBounds_toArray, List.set_cons_zero, List.set_cons_succ, i64_w, i32_w]
            rfl
          refine one_ (i := 12) (N := some 22) #[true, true, true, true, true, true, true, true, true, true, true, true, true, false] rfl rfl (one_of HT_.out (by kernel_rfl)) (by decide) (fun K hK => ?_)
          refine goes_ Try.func64 (by kernel_rfl) rfl #[.int .i64 (rd l0 (ji3)), .int .i64 (rd l0 (ji6))] (by rfl) rfl rfl (by (try simp only [List.map_toArray, List.map_cons, List.map_nil]); first | done | (simp only [hji3, hji6]; rfl) | rfl | (simp only [List.length_drop, List.length_take]; rfl)) ?_
          with_reducible refine (spec_l1Gcd.calls k1 (rd l0 (ji3)) (rd l0 (ji6)) t278 _ A9.out).mono ?_
          rintro e w14 ⟨rfl, hb⟩
          refine ⟨_, rfl, ?_⟩
          replace HB := BS hb; (try clear hb); (try clear hb2); (try clear hk); (try clear hi)
          refine hK.out _ _ ⟨((HB.out.cell (World.block_lt_of_cell? w _ hw276_0)).trans hw276_0), ((HB.out.cell (World.block_lt_of_cell? w _ hw277_0)).trans hw277_0)⟩ (fun hHeld => ?_)
          clear hK K
          refine norm_ (a' := ?_) ?_ ?_
          rotate_left
          · show Act.put _ (some 22) _ = _
            simp only [Act.put, List.setIfInBounds_toArray, List.set_cons_zero, List.set_cons_succ, i64_w, i32_w]
            rfl
          refine pure_ (i := 13) (N := some 5) (v := ?_) (a' := ?_) #[true, true, true, true, true, true, true, true, true, true, true, true, true, true] rfl rfl (any_of HT_.out (by kernel_rfl)) (fun _ _ _ h => h) (Or.inl ⟨by rfl, ?_⟩) ?_ ?_
          rotate_left
          · intro w'
            go_simp
            with_reducible rfl
          rotate_left
          · simp only [Act.put, List.setIfInBounds_toArray, List.set_cons_zero, List.set_cons_succ, i64_w, i32_w]
            rfl
          refine done_ (done_of HT_.out (by kernel_rfl)) ?_
          try go_wp2_with (first | ((with_reducible refine gate_callee (f := 74) rfl ?_); refine goesK (some 26) Try.func74 #[.int .i64 t278] ?_; (with_reducible refine (spec_l1Primes.calls k1 t278 t279 _ A11.out).mono ?_); rintro e w15 ⟨v280, rfl, ho0, hb⟩; refine ⟨_, rfl, ?_⟩; have HO281 := Aside0.mk (Kd.R_lower ho0 (below_size BU)); replace HB := BS hb; (try clear hb); (try clear ho0); obtain ⟨Ao16, co16, eo16⟩ := Kd.R_slice HO281.out; subst eo16; have p282 : 0 ≤ (0 : Int) := (by omega); have q282 : 0 < (t279.length : Int) := oD; obtain ⟨ad282, e282, hx282_0⟩ := Kd.at_int (Kd.R_reads' HO281.out).2.2 0 p282 q282; cases e282; have qi282 : (0 < t279.length) = True := eq_true (by omega); (try rw [show ((0 : Int)).toNat = 0 from rfl] at hx282_0); (try rw [Addr.add_zero'] at hx282_0); replace p282 := eq_true p282; replace q282 := eq_true q282))
          go_ret2
          exact ⟨by first | rfl | (simp [errW_none, errW_some] <;> rfl) | (simp only [← hji3, ← hji6]; first | rfl | (simp [errW_none, errW_some] <;> rfl)) | (simp [*, errW_none, errW_some] <;> rfl), BU⟩
        rw [if_neg c10] at H; have c10b0 : decide (1 < t278) = false := decide_eq_false c10; clear c10; have H' := Aside0.mk H; clear H
        try go_wp2
        replace HB := Aside0.mk (below_drew1 HB.out); have p276 : 0 ≤ ((ji3) : Int) := oD; have q276 : (ji3) < (l0.length : Int) := oD; obtain ⟨ad276, e276, hx276_0⟩ := Kd.at_int HR0.out (ji3) p276 q276; have hw276_0 := hx276_0; cases e276; replace hx276_0 := (HB.out.cell (World.block_lt_of_cell? w _ hx276_0)).trans hx276_0; replace p276 := eq_true p276; replace q276 := eq_true q276; have p277 : 0 ≤ ((ji6) : Int) := oD; have q277 : (ji6) < (l0.length : Int) := oD; obtain ⟨ad277, e277, hx277_0⟩ := Kd.at_int HR0.out (ji6) p277 q277; have hw277_0 := hx277_0; obtain rfl : ad276 = ad277 := (by injection e277); replace hx277_0 := (HB.out.cell (World.block_lt_of_cell? w _ hx277_0)).trans hx277_0; replace p277 := eq_true p277; replace q277 := eq_true q277
        refine start_ (n := 14) (S := fun w' => w'.cell? (ad276.add ((ji3)).toNat) = some (.int .i64 (rd l0 (ji3))) ∧ w'.cell? (ad276.add ((ji6)).toNat) = some (.int .i64 (rd l0 (ji6)))) (ds := []) #[false, false, false, false, false, false, false, false, false, false, false, false, false, false] (by kernel_rfl) rfl rfl ⟨((HB.out.cell (World.block_lt_of_cell? w _ hw276_0)).trans hw276_0), ((HB.out.cell (World.block_lt_of_cell? w _ hw277_0)).trans hw277_0)⟩ (fun hHeld => ?_); refine with_tabW spec_l5Two.tab4 spec_l5Two.bits4 (fun HT_ HW_ => ?_)
        generalize wr.drew = w17 at HB hx276_0 hx277_0 hHeld ⊢
        refine pure_ (i := 0) (N := some 10) (v := ?_) (a' := ?_) #[true, false, false, false, false, false, false, false, false, false, false, false, false, false] rfl rfl (any_of HT_.out (by kernel_rfl)) (fun _ _ _ h => h) (Or.inl ⟨by rfl, ?_⟩) ?_ ?_
        rotate_left
        · intro w'
          go_simp
          with_reducible rfl
        rotate_left
        · simp only [Act.put, List.setIfInBounds_toArray, List.set_cons_zero, List.set_cons_succ, i64_w, i32_w]
          rfl
        refine pure_ (i := 1) (N := some 11) (v := ?_) (a' := ?_) #[true, true, false, false, false, false, false, false, false, false, false, false, false, false] rfl rfl (any_of HT_.out (by kernel_rfl)) (fun _ _ _ h => h) (Or.inl ⟨by rfl, ?_⟩) ?_ ?_
        rotate_left
        · intro w'
          go_simp
          with_reducible rfl
        rotate_left
        · simp only [Act.put, List.setIfInBounds_toArray, List.set_cons_zero, List.set_cons_succ, i64_w, i32_w]
          rfl
        refine pure_ (i := 2) (N := some 12) (v := ?_) (a' := ?_) #[true, true, true, false, false, false, false, false, false, false, false, false, false, false] rfl rfl (any_of HT_.out (by kernel_rfl)) (fun _ _ _ h => h) (Or.inl ⟨by rfl, ?_⟩) ?_ ?_
        rotate_left
        · intro w'
          go_simp
          with_reducible rfl
        rotate_left
        · simp only [Act.put, List.setIfInBounds_toArray, List.set_cons_zero, List.set_cons_succ, i64_w, i32_w]
          rfl
        refine pure_ (i := 3) (N := some 13) (v := ?_) (a' := ?_) #[true, true, true, true, false, false, false, false, false, false, false, false, false, false] rfl rfl (any_of HT_.out (by kernel_rfl)) (fun _ _ _ h => h) (Or.inl ⟨by rfl, ?_⟩) ?_ ?_
        rotate_left
        · intro w'
          go_simp
          with_reducible rfl
        rotate_left
        · simp only [Act.put, List.setIfInBounds_toArray, List.set_cons_zero, List.set_cons_succ, i64_w, i32_w]
          rfl
        refine pure_ (i := 4) (N := some 14) (v := ?_) (a' := ?_) #[true, true, true, true, true, false, false, false, false, false, false, false, false, false] rfl rfl (any_of HT_.out (by kernel_rfl)) (fun _ _ _ h => h) (Or.inl ⟨by rfl, ?_⟩) ?_ ?_
        rotate_left
        · intro w'
          go_simp
          with_reducible rfl
        rotate_left
        · simp only [Act.put, List.setIfInBounds_toArray, List.set_cons_zero, List.set_cons_succ, i64_w, i32_w]
          rfl
        refine pure_ (i := 6) (N := some 16) (v := ?_) (a' := ?_) #[true, true, true, true, true, false, true, false, false, false, false, false, false, false] rfl rfl (any_of HT_.out (by kernel_rfl)) (fun _ _ _ h => h) (Or.inl ⟨by rfl, ?_⟩) ?_ ?_
        rotate_left
        · intro w'
          go_simp
          with_reducible rfl
        rotate_left
        · simp only [Act.put, List.setIfInBounds_toArray, List.set_cons_zero, List.set_cons_succ, i64_w, i32_w]
          rfl
        refine pure_ (i := 7) (N := some 17) (v := ?_) (a' := ?_) #[true, true, true, true, true, false, true, true, false, false, false, false, false, false] rfl rfl (any_of HT_.out (by kernel_rfl)) (fun _ _ _ h => h) (Or.inl ⟨by rfl, ?_⟩) ?_ ?_
        rotate_left
        · intro w'
          go_simp
          with_reducible rfl
        rotate_left
        · simp only [Act.put, List.setIfInBounds_toArray, List.set_cons_zero, List.set_cons_succ, i64_w, i32_w]
          rfl
        refine pure_ (i := 8) (N := some 18) (v := ?_) (a' := ?_) #[true, true, true, true, true, false, true, true, true, false, false, false, false, false] rfl rfl (any_of HT_.out (by kernel_rfl)) (fun _ _ _ h => h) (Or.inl ⟨by rfl, ?_⟩) ?_ ?_
        rotate_left
        · intro w'
          go_simp
          with_reducible rfl
        rotate_left
        · simp only [Act.put, List.setIfInBounds_toArray, List.set_cons_zero, List.set_cons_succ, i64_w, i32_w]
          rfl
        refine pure_ (i := 9) (N := some 19) (v := ?_) (a' := ?_) #[true, true, true, true, true, false, true, true, true, true, false, false, false, false] rfl rfl (any_of HT_.out (by kernel_rfl)) (fun _ _ _ h => h) (Or.inl ⟨by rfl, ?_⟩) ?_ ?_
        rotate_left
        · intro w'
          go_simp
          with_reducible rfl
        rotate_left
        · simp only [Act.put, List.setIfInBounds_toArray, List.set_cons_zero, List.set_cons_succ, i64_w, i32_w]
          rfl
        refine pure_ (i := 10) (N := some 20) (v := ?_) (a' := ?_) #[true, true, true, true, true, false, true, true, true, true, true, false, false, false] rfl rfl (any_of HT_.out (by kernel_rfl)) (fun _ _ _ h => h) (Or.inl ⟨by rfl, ?_⟩) ?_ ?_
        rotate_left
        · intro w'
          go_simp
          with_reducible rfl
        rotate_left
        · simp only [Act.put, List.setIfInBounds_toArray, List.set_cons_zero, List.set_cons_succ, i64_w, i32_w]
          rfl
        refine take_ (i := 5) (N := some 15) (v := ?_) (a' := ?_) #[true, true, true, true, true, true, true, true, true, true, true, false, false, false] rfl rfl (take_ofW HT_.out HW_.out (by kernel_rfl)) (fun _ _ _ h => h) (Or.inl ⟨by rfl, ?_⟩) hHeld ?_ ?_
        rotate_left
        · rintro w' ⟨s0, s1⟩
          go_simp
          with_reducible rfl
        rotate_left
        · simp only [Act.put, List.setIfInBounds_toArray, List.set_cons_zero, List.set_cons_succ, i64_w, i32_w]
          rfl
        refine take_ (i := 11) (N := some 21) (v := ?_) (a' := ?_) #[true, true, true, true, true, true, true, true, true, true, true, true, false, false] rfl rfl (take_ofW HT_.out HW_.out (by kernel_rfl)) (fun _ _ _ h => h) (Or.inl ⟨by rfl, ?_⟩) hHeld ?_ ?_
        rotate_left
        · rintro w' ⟨s0, s1⟩
          go_simp
          with_reducible rfl
        rotate_left
        · simp only [Act.put, List.setIfInBounds_toArray, List.set_cons_zero, List.set_cons_succ, i64_w, i32_w]
          rfl
        refine one_ (i := 12) (N := some 22) #[true, true, true, true, true, true, true, true, true, true, true, true, true, false] rfl rfl (one_of HT_.out (by kernel_rfl)) (by decide) (fun K hK => ?_)
        refine goes_ Try.func64 (by kernel_rfl) rfl #[.int .i64 (rd l0 (ji3)), .int .i64 (rd l0 (ji6))] (by rfl) rfl rfl (by (try simp only [List.map_toArray, List.map_cons, List.map_nil]); first | done | (simp only [hji3, hji6]; rfl) | rfl | (simp only [List.length_drop, List.length_take]; rfl)) ?_
        with_reducible refine (spec_l1Gcd.calls k1 (rd l0 (ji3)) (rd l0 (ji6)) t278 _ A9.out).mono ?_
        rintro e w18 ⟨rfl, hb⟩
        refine ⟨_, rfl, ?_⟩
        replace HB := BS hb; (try clear hb); (try clear hb2); (try clear hk); (try clear hi)
        refine hK.out _ _ ⟨((HB.out.cell (World.block_lt_of_cell? w _ hw276_0)).trans hw276_0), ((HB.out.cell (World.block_lt_of_cell? w _ hw277_0)).trans hw277_0)⟩ (fun hHeld => ?_)
        clear hK K
        refine norm_ (a' := ?_) ?_ ?_
        rotate_left
        · show Act.put _ (some 22) _ = _
          simp only [Act.put, List.setIfInBounds_toArray, List.set_cons_zero, List.set_cons_succ, i64_w, i32_w]
          rfl
        refine pure_ (i := 13) (N := some 5) (v := ?_) (a' := ?_) #[true, true, true, true, true, true, true, true, true, true, true, true, true, true] rfl rfl (any_of HT_.out (by kernel_rfl)) (fun _ _ _ h => h) (Or.inl ⟨by rfl, ?_⟩) ?_ ?_
        rotate_left
        · intro w'
          go_simp
          with_reducible rfl
        rotate_left
        · simp only [Act.put, List.setIfInBounds_toArray, List.set_cons_zero, List.set_cons_succ, i64_w, i32_w]
          rfl
        refine done_ (done_of HT_.out (by kernel_rfl)) ?_
        try go_wp2
        go_roundg k1
        case measure => have := HK1.out; omega
        case rel => exact ⟨(wrap64 (x4_1 - 1)), sR, H', ⟨by have := HK1.out; omega⟩, ⟨BU⟩⟩
      rw [if_neg c2] at H; have c2b0 : decide (0 ≤ x4_1) = false := decide_eq_false c2; clear c2; simp only [Option.some.injEq, Prod.mk.injEq] at H; obtain ⟨rfl, rfl⟩ := H
      go_wp2
      go_ret2
      exact ⟨eR, BU⟩

/-! ### spec_l5Normal: function 70 -/
mutual
def spec_l5Normal.l0 : Nat → List Int → List Int → List Int → Int → Option (List Int × List Int)
  | 0, _, _, _, _ => none
  | k + 1, x0, x4, x5, x6 => if x6 < 3 then (if 0 ≤ x6 then (if x6 < (x0.length : Int) then ((spec_l1Core.f k (rd x0 x6)).bind fun bt290 => (if x4.length < 17592186044416 then (if 0 ≤ (Int.tmod (wrap64 (x6 + 1)) 3) then (if (Int.tmod (wrap64 (x6 + 1)) 3) < (x5.length : Int) then ((some (x5.set ((Int.tmod (wrap64 (x6 + 1)) 3) : Int).toNat (wrap64 ((rd x5 (Int.tmod (wrap64 (x6 + 1)) 3)) * bt290.2)) : List Int)).bind fun y296 => (if 0 ≤ (Int.tmod (wrap64 (x6 + 2)) 3) then (if (Int.tmod (wrap64 (x6 + 2)) 3) < (x5.length : Int) then (spec_l5Normal.l0 k x0 (x4 ++ [bt290.1]) (y296.set ((Int.tmod (wrap64 (x6 + 2)) 3) : Int).toNat (wrap64 ((rd y296 (Int.tmod (wrap64 (x6 + 2)) 3)) * bt290.2))) (wrap64 (x6 + 1))) else (none)) else (none))) else (none)) else (none)) else (none))) else (none)) else (none)) else ((spec_l5Two.f k x4).bind fun bt299 => (spec_l5Normal.l1 k x4 x5 bt299.1 bt299.2))
def spec_l5Normal.l1 : Nat → List Int → List Int → Int → Int → Option (List Int × List Int)
  | 0, _, _, _, _ => none
  | k + 1, x4, x5, x9, x10 => if x9 > 1 then (if 0 ≤ (Int.tmod (wrap64 (x10 + 1)) 3) then (if (Int.tmod (wrap64 (x10 + 1)) 3) < (x4.length : Int) then (if x9 = 0 then (none) else ((some (x4.set ((Int.tmod (wrap64 (x10 + 1)) 3) : Int).toNat (wrap64 (Int.tdiv (rd x4 (Int.tmod (wrap64 (x10 + 1)) 3)) x9)) : List Int)).bind fun y302 => (if 0 ≤ (Int.tmod (wrap64 (x10 + 2)) 3) then (if (Int.tmod (wrap64 (x10 + 2)) 3) < (x4.length : Int) then ((some (y302.set ((Int.tmod (wrap64 (x10 + 2)) 3) : Int).toNat (wrap64 (Int.tdiv (rd y302 (Int.tmod (wrap64 (x10 + 2)) 3)) x9)) : List Int)).bind fun y304 => (if 0 ≤ x10 then (if x10 < (x4.length : Int) then (if (Int.tmod (rd y304 x10) x9) = 0 then ((some (y304.set (x10 : Int).toNat (wrap64 (Int.tdiv (rd y304 x10) x9)) : List Int)).bind fun y307 => ((spec_l5Two.f k y307).bind fun bt308 => (spec_l5Normal.l1 k y307 x5 bt308.1 bt308.2))) else ((some (y304.set (x10 : Int).toNat (wrap64 ((rd y304 x10) * x9)) : List Int)).bind fun y311 => (if x10 < (x5.length : Int) then ((spec_l5Two.f k y311).bind fun bt314 => (spec_l5Normal.l1 k y311 (x5.set (x10 : Int).toNat (wrap64 ((rd x5 x10) * x9))) bt314.1 bt314.2)) else (none)))) else (none)) else (none))) else (none)) else (none)))) else (none)) else (none)) else (some (x4, x5))
end
def spec_l5Normal.f (k : Nat) (l0 : List Int) : Option (List Int × List Int) := spec_l5Normal.l0 k l0 (([] : List Int)) (([1, 1, 1] : List Int)) 0
theorem spec_l5Normal.mono_l : ∀ k, (∀ y0 y1 y2 y3, LeO (spec_l5Normal.l0 k y0 y1 y2 y3) (spec_l5Normal.l0 (k + 1) y0 y1 y2 y3)) ∧ (∀ y0 y1 y2 y3, LeO (spec_l5Normal.l1 k y0 y1 y2 y3) (spec_l5Normal.l1 (k + 1) y0 y1 y2 y3))
  | 0 => ⟨fun _ _ _ _ r h => by simp [spec_l5Normal.l0] at h, fun _ _ _ _ r h => by simp [spec_l5Normal.l1] at h⟩
  | k + 1 => by
    obtain ⟨ih0, ih1⟩ := spec_l5Normal.mono_l k
    refine ⟨?_, ?_⟩ <;> intros <;> (first | unfold spec_l5Normal.l0 | unfold spec_l5Normal.l1) <;> (repeat' first
      | (with_reducible exact ih0 _ _ _ _)
      | (with_reducible exact ih1 _ _ _ _)
      | (with_reducible exact spec_l1Core.mono _ _)
      | (with_reducible exact spec_l5Two.mono _ _)
      | (with_reducible exact LeO.refl _)
      | (with_reducible exact LeO.none _)
      | (with_reducible refine LeO.ite ?_ ?_)
      | (with_reducible refine LeO.bind ?_ (fun _ => ?_))
      | exact ih0 _ _ _ _
      | exact ih1 _ _ _ _
      | exact spec_l1Core.mono _ _
      | exact spec_l5Two.mono _ _
      | exact LeO.none _
      | refine LeO.ite ?_ ?_
      | refine LeO.bind ?_ (fun _ => ?_))
theorem spec_l5Normal.mono : ∀ a0 k, LeO (spec_l5Normal.f k a0) (spec_l5Normal.f (k + 1) a0) := by
  intro a0 k
  obtain ⟨ih0, ih1⟩ := spec_l5Normal.mono_l k
  unfold spec_l5Normal.f
  repeat' first
      | (with_reducible exact ih0 _ _ _ _)
      | (with_reducible exact ih1 _ _ _ _)
      | (with_reducible exact spec_l1Core.mono _ _)
      | (with_reducible exact spec_l5Two.mono _ _)
      | (with_reducible exact LeO.refl _)
      | (with_reducible exact LeO.none _)
      | (with_reducible refine LeO.ite ?_ ?_)
      | (with_reducible refine LeO.bind ?_ (fun _ => ?_))
      | exact ih0 _ _ _ _
      | exact ih1 _ _ _ _
      | exact spec_l1Core.mono _ _
      | exact spec_l5Two.mono _ _
      | exact LeO.none _
      | refine LeO.ite ?_ ?_
      | refine LeO.bind ?_ (fun _ => ?_)
set_option maxHeartbeats 8000000 in
set_option maxRecDepth 100000 in
theorem spec_l5Normal.calls (k : Nat) (A0 : Option Addr) (c0 : Nat) (l0 : List Int) (r1 : List Int) (r2 : List Int) (w : World) (hr0 : Kd.C (Kd.int .i64) w A0 l0.length l0) (hc0 : l0.length ≤ c0) (h : spec_l5Normal.f k l0 = some (r1, r2)) :
    Calls Try.prog 70 #[.slice A0 l0.length c0] w fun e w' => ∃ v0_ v1_ : Value, e = .returned (.tuple #[v0_, v1_]) ∧ Kd.R (Kd.int .i64) 3 w' w.heap.size (fun k_ => some k_ ≠ (v1_ : Value).ownBlock) v0_ r1 ∧ Kd.R (Kd.int .i64) 3 w' w.heap.size (fun k_ => some k_ ≠ (v0_ : Value).ownBlock) v1_ r2 ∧ Below w.heap.size w w' := by
  have HR0 := Aside0.mk hr0; have HC0 := Aside0.mk hc0; clear hr0 hc0; have HB := Aside0.mk (Below.refl w.heap.size w); unfold spec_l5Normal.f at h; have H := h; clear h; obtain ⟨y283, hy283⟩ : ∃ y_ : List Int, y_ = (([] : List Int)) := ⟨_, rfl⟩; replace H : (spec_l5Normal.l0 k l0 y283 (([1, 1, 1] : List Int)) 0) = some (r1, r2) := rH hy283 H; have Ny283 := Aside0.mk hy283; clear hy283; obtain ⟨y286, hy286⟩ : ∃ y_ : List Int, y_ = (([1, 1, 1] : List Int)) := ⟨_, rfl⟩; replace H : (spec_l5Normal.l0 k l0 y283 y286 0) = some (r1, r2) := rH hy286 H; have Ny286 := Aside0.mk hy286; clear hy286; have H' := Aside0.mk H; clear H; go_enter Try.func70, Try.ntmps70
  go_wp2_with (first | ((with_reducible refine gate_dst (N := 11) rfl ?_); refine Kd.R_lit (Kd.int .i64) _ 3 ?hg (N := 11) ?hd (xs := ([] : List Int)) (inner := []) (ok := fun _ => True) (okp := fun _ => True) ?hr ?hp (fun _ hk => hk) trivial (Below.refl _ _) (Nat.le_refl _) (by simp) ?_; (case hd => rfl); (case hg => rfl); (case hr => first | (go_simp; done) | (go_simp; rfl)); (case hp => exact (Reps.none _ _)); intro v284 w2 ho3 hb hg_ hnew_; clear hg_ hnew_; (first | rw [← Ny283.out] at ho3 | (simp only [Int.reduceToNat] at ho3; rw [← Ny283.out] at ho3)); have HO285 := Aside0.mk (Kd.R_lower ho3 (below_size BU)); replace HB := BS hb; clear hb ho3) | ((with_reducible refine gate_dst (N := 12) rfl ?_); refine Kd.R_lit (Kd.int .i64) _ 3 ?hg (N := 12) ?hd (xs := ([1, 1, 1] : List Int)) (inner := [.int .i64 1, .int .i64 1, .int .i64 1]) (ok := fun _ => True) (okp := fun _ => True) ?hr ?hp (fun _ hk => hk) trivial (Below.refl _ _) (Nat.le_refl _) (by simp) ?_; (case hd => rfl); (case hg => rfl); (case hr => first | (go_simp; done) | (go_simp; rfl)); (case hp => exact (Reps.one (show Kd.M (Kd.int .i64) _ _ _ 1 [.int .i64 1] from rfl) (Reps.one (show Kd.M (Kd.int .i64) _ _ _ 1 [.int .i64 1] from rfl) (Reps.one (show Kd.M (Kd.int .i64) _ _ _ 1 [.int .i64 1] from rfl) (Reps.none _ _))))); intro v287 w4 ho5 hb hg_ hnew_; clear hg_ hnew_; (first | rw [← Ny286.out] at ho5 | (simp only [Int.reduceToNat] at ho5; rw [← Ny286.out] at ho5)); have HO288 := Aside0.mk (Kd.R_lower (Kd.R_new' ho5 (Kd.R_lt (U HO285.out))) (below_size BU)); replace HO285 := Aside0.mk (Kd.R_elder' (U HO285.out) (Kd.R_base ho5) hb); replace HB := BS hb; clear hb ho5))
  go_loopg [4, 6] k (fun kq v4 v6 w' => ∃ (x4_1 : List Int) (x5_1 : List Int) (x6_1 : Int), v6 = .int .i64 x6_1 ∧ Aside0 (spec_l5Normal.l0 kq l0 x4_1 x5_1 x6_1 = some (r1, r2)) ∧ Aside0 (kq ≤ k) ∧ Aside0 (Kd.R (Kd.int .i64) 3 w' w.heap.size (fun k_ => some k_ ≠ (v287 : Value).ownBlock) v4 x4_1) ∧ Aside0 (Kd.R (Kd.int .i64) 3 w' w.heap.size (fun k_ => some k_ ≠ (v4 : Value).ownBlock) v287 x5_1) ∧ Aside0 (Below w.heap.size w w'))
  case atStart => exact ⟨(y283), (y286), (0), sR, H', ⟨Nat.le_refl _⟩, ⟨Kd.RM HO285.out (fun _ hk => hk.2)⟩, ⟨Kd.RM HO288.out (fun _ hk => hk.2)⟩, ⟨BU⟩⟩
  case round =>
    clear H'; obtain ⟨x4_1, x5_1, x6_1, rfl, HA, HK1, HO_4, HO_5, HB⟩ := hrel; cases gk with
    | zero => exact absurd HA.out (by simp [spec_l5Normal.l0])
    | succ k1 =>
      have H := HA.out; clear HA; simp only [spec_l5Normal.l0] at H
      by_cases c6 : x6_1 < 3
      · rw [if_pos c6] at H
        have c6b0 : decide (x6_1 < 3) = true := decide_eq_true c6; clear c6; obtain ⟨c7, H⟩ := ifN H; have c7b0 : decide (0 ≤ x6_1) = true := decide_eq_true c7; clear c7; obtain ⟨c8, H⟩ := ifN H; have c8b0 : decide (x6_1 < (l0.length : Int)) = true := decide_eq_true c8; clear c8; obtain ⟨⟨t290, t291⟩, A9, H⟩ := bnd H
        replace H : (if x4_1.length < 17592186044416 then (if 0 ≤ (Int.tmod (wrap64 (x6_1 + 1)) 3) then (if (Int.tmod (wrap64 (x6_1 + 1)) 3) < (x5_1.length : Int) then ((some (x5_1.set ((Int.tmod (wrap64 (x6_1 + 1)) 3) : Int).toNat (wrap64 ((rd x5_1 (Int.tmod (wrap64 (x6_1 + 1)) 3)) * t291)) : List Int)).bind fun y296 => (if 0 ≤ (Int.tmod (wrap64 (x6_1 + 2)) 3) then (if (Int.tmod (wrap64 (x6_1 + 2)) 3) < (x5_1.length : Int) then (spec_l5Normal.l0 k1 l0 (x4_1 ++ [t290]) (y296.set ((Int.tmod (wrap64 (x6_1 + 2)) 3) : Int).toNat (wrap64 ((rd y296 (Int.tmod (wrap64 (x6_1 + 2)) 3)) * t291))) (wrap64 (x6_1 + 1))) else (none)) else (none))) else (none)) else (none)) else (none)) = some (r1, r2) := H
        obtain ⟨c10, H⟩ := ifN H; have LMc10 := Aside0.mk c10; clear c10; obtain ⟨y292, hy292⟩ : ∃ y_ : List Int, y_ = (x4_1 ++ [t290]) := ⟨_, rfl⟩
        replace H : (if 0 ≤ (Int.tmod (wrap64 (x6_1 + 1)) 3) then (if (Int.tmod (wrap64 (x6_1 + 1)) 3) < (x5_1.length : Int) then ((some (x5_1.set ((Int.tmod (wrap64 (x6_1 + 1)) 3) : Int).toNat (wrap64 ((rd x5_1 (Int.tmod (wrap64 (x6_1 + 1)) 3)) * t291)) : List Int)).bind fun y296 => (if 0 ≤ (Int.tmod (wrap64 (x6_1 + 2)) 3) then (if (Int.tmod (wrap64 (x6_1 + 2)) 3) < (x5_1.length : Int) then (spec_l5Normal.l0 k1 l0 y292 (y296.set ((Int.tmod (wrap64 (x6_1 + 2)) 3) : Int).toNat (wrap64 ((rd y296 (Int.tmod (wrap64 (x6_1 + 2)) 3)) * t291))) (wrap64 (x6_1 + 1))) else (none)) else (none))) else (none)) else (none)) = some (r1, r2) := rH hy292 H
        have Ny292 := Aside0.mk hy292; clear hy292; obtain ⟨ji11, hji11⟩ : ∃ j_ : Int, (Int.tmod (wrap64 (x6_1 + 1)) 3) = j_ := ⟨_, rfl⟩
        replace H : (if 0 ≤ (ji11) then (if (ji11) < (x5_1.length : Int) then ((some (x5_1.set ((ji11) : Int).toNat (wrap64 ((rd x5_1 (ji11)) * t291)) : List Int)).bind fun y296 => (if 0 ≤ (Int.tmod (wrap64 (x6_1 + 2)) 3) then (if (Int.tmod (wrap64 (x6_1 + 2)) 3) < (x5_1.length : Int) then (spec_l5Normal.l0 k1 l0 y292 (y296.set ((Int.tmod (wrap64 (x6_1 + 2)) 3) : Int).toNat (wrap64 ((rd y296 (Int.tmod (wrap64 (x6_1 + 2)) 3)) * t291))) (wrap64 (x6_1 + 1))) else (none)) else (none))) else (none)) else (none)) = some (r1, r2) := by first | (rw [hji11] at H; exact H) | (simp only [hji11] at H ⊢; exact H)
        (try rw [hji11] at A9)
        obtain ⟨c12, H⟩ := ifN H; have c12b0 : decide (0 ≤ (ji11)) = true := decide_eq_true c12; clear c12; obtain ⟨c13, H⟩ := ifN H; have c13b0 : decide ((ji11) < (x5_1.length : Int)) = true := decide_eq_true c13; clear c13; obtain ⟨y296, hy296⟩ : ∃ y_ : List Int, y_ = (x5_1.set ((ji11) : Int).toNat (wrap64 ((rd x5_1 (ji11)) * t291))) := ⟨_, rfl⟩; replace H : (if 0 ≤ (Int.tmod (wrap64 (x6_1 + 2)) 3) then (if (Int.tmod (wrap64 (x6_1 + 2)) 3) < (x5_1.length : Int) then (spec_l5Normal.l0 k1 l0 y292 (y296.set ((Int.tmod (wrap64 (x6_1 + 2)) 3) : Int).toNat (wrap64 ((rd y296 (Int.tmod (wrap64 (x6_1 + 2)) 3)) * t291))) (wrap64 (x6_1 + 1))) else (none)) else (none)) = some (r1, r2) := rH hy296 H; have Ny296 := Aside0.mk hy296; clear hy296; obtain ⟨ji15, hji15⟩ : ∃ j_ : Int, (Int.tmod (wrap64 (x6_1 + 2)) 3) = j_ := ⟨_, rfl⟩
        replace H : (if 0 ≤ (ji15) then (if (ji15) < (x5_1.length : Int) then (spec_l5Normal.l0 k1 l0 y292 (y296.set ((ji15) : Int).toNat (wrap64 ((rd y296 (ji15)) * t291))) (wrap64 (x6_1 + 1))) else (none)) else (none)) = some (r1, r2) := by first | (rw [hji15] at H; exact H) | (simp only [hji15] at H ⊢; exact H)
        (try rw [hji15] at A9)
        obtain ⟨c16, H⟩ := ifN H; have c16b0 : decide (0 ≤ (ji15)) = true := decide_eq_true c16; clear c16; obtain ⟨c17, H⟩ := ifN H; have c17b0 : decide ((ji15) < (x5_1.length : Int)) = true := decide_eq_true c17; clear c17; obtain ⟨y298, hy298⟩ : ∃ y_ : List Int, y_ = (y296.set ((ji15) : Int).toNat (wrap64 ((rd y296 (ji15)) * t291))) := ⟨_, rfl⟩; replace H : (spec_l5Normal.l0 k1 l0 y292 y298 (wrap64 (x6_1 + 1))) = some (r1, r2) := rH hy298 H; have Ny298 := Aside0.mk hy298; clear hy298; have H' := Aside0.mk H; clear H; have p289 : 0 ≤ (x6_1 : Int) := oD; have q289 : x6_1 < (l0.length : Int) := oD; obtain ⟨ad289, e289, hx289_0⟩ := Kd.at_int HR0.out x6_1 p289 q289; cases e289; replace hx289_0 := (HB.out.cell (World.block_lt_of_cell? w _ hx289_0)).trans hx289_0; replace p289 := eq_true p289; replace q289 := eq_true q289
        go_wp2_with (first | ((with_reducible refine gate_callee (f := 67) rfl ?_); refine goesK (some 22) Try.func67 #[.int .i64 (rd l0 x6_1)] ?_; (with_reducible refine (spec_l1Core.calls k1 (rd l0 x6_1) t290 t291 _ A9.out).mono ?_); rintro e w19 ⟨rfl, hb⟩; refine ⟨_, rfl, ?_⟩; replace HO_4 := Aside0.mk (Kd.R_below (U HO_4.out) hb); replace HO_5 := Aside0.mk (Kd.R_below (U HO_5.out) hb); replace HB := BS hb; (try clear hb)) | ((with_reducible refine gate_builtin (b := .append) (xs := #[.tmp 25, .tmp 27]) rfl ?_); at_builtin; refine Kd.R_append (Kd.int .i64) (w0 := w) w.heap.size rfl (.tmp 25) (.tmp 27) 23 3 (.int .i64 0) 8 rfl Try.underlying23 info3 rfl (by decide) (by omega) u4 x4_1 t290 [.int .i64 t290] (fun k_ => some k_ ≠ (v287 : Value).ownBlock) (fun _ => False) rfl rfl ?aP (fun _ hk => hk.elim) ?aF ?aO ?aB ?aS ?aL ?_; (case aP => exact rfl); (case aB => exact BU); (case aF => exact (fun k_ hk => Kd.fresh' (Kd.R_lt (U HO_5.out)) k_ hk)); (case aO => exact (U HO_4.out)); (case aS => exact (below_size BU)); (case aL => have := LMc10.out; omega); intro v293 w20 ho hb hg hat; rw [← Ny292.out] at ho; have n0_ := Aside0.mk (Kd.R_after (ok := (fun _ => True)) (Kd.RM HO_5.out (fun _ hk => ⟨trivial, hk⟩)) hg hat); have n1_ := Aside0.mk (hb); have n2_ := Aside0.mk (ho); clear HO_5; try clear HB; clear HO_4; have HO_5 := n0_; have HB := n1_; have HO294 := n2_; clear n0_ n1_ n2_; clear ho hb hg hat; obtain ⟨Ao21, co21, eo21⟩ := Kd.R_slice HO_5.out; subst eo21; have p295 : 0 ≤ ((ji11) : Int) := oD; have q295 : (ji11) < (x5_1.length : Int) := oD; obtain ⟨ad295, e295, hx295_0⟩ := Kd.at_int (Kd.R_reads' HO_5.out).2.2 (ji11) p295 q295; cases e295; replace p295 := eq_true p295; replace q295 := eq_true q295; have p14 : 0 ≤ ((ji11) : Int) := oD; have q14 : ((ji11) : Int) < ((x5_1.length : Int) : Int) := oD; obtain ⟨go14, co14, eo14, gb14, gl14, cl14, HG14⟩ := Kd.R_form HO_5.out (by omega); (first | cases eo14 | (injection eo14 with ea_ en_ ec_; (first | subst ea_ | (injection ea_ with ea_; subst ea_)); subst ec_; clear en_)); have GB14 := Aside0.mk gb14; have GG14 := Aside0.mk HG14; clear gb14 gl14 HG14; (first | simp only [add_plain] at hx295_0 | skip); obtain ⟨hx14_0, hf14_0⟩ := Kd.R_celln 0 HO_5.out ((ji11) : Int) p14 q14; replace p14 := eq_true p14; replace q14 := eq_true q14; have n_ := Aside0.mk (Kd.R_mono (ok' := (fun k_ => some k_ ≠ (v293 : Value).ownBlock)) HO_5.out (fun k_ hk => hk.2)); clear HO_5; have HO_5 := n_; clear n_; obtain ⟨hy22_, hz22_⟩ := Kd.R_celln 0 HO_5.out ((ji11) : Int) (oD) (oD); have HP22 := Kd.R_putg HO_5.out ((ji11) : Int) (wrap64 ((rd x5_1 (ji11)) * t291))) | ((with_reducible refine gate_store (t := 3) (p := 41) rfl ?_); refine store_event (t := 3) (p := 41) (v := ?vo_w23) (w1 := (w20.setCell ⟨go14, ((ji11) : Int).toNat, none⟩ (.int .i64 (wrap64 ((rd x5_1 (ji11)) * t291))))) ?hg ?ho ?hn ?hr ?_; (case ho => rfl); (case hg => rfl); (case hn => rfl); (case hr => first | (go_simp; done) | (go_simp; rfl)); intro w23 hw; have hg : w20.grownBy w23 (some go14) := (by rw [hw]; exact HP22.2); have hp_ : Kd.R (Kd.int .i64) 3 w23 w.heap.size (fun k_ => some k_ ≠ (v293 : Value).ownBlock) (.slice (some ⟨go14, 0, none⟩) x5_1.length co21) y296 := (by rw [hw, Ny296.out]; exact HP22.1); clear HP22; replace HO_5 := Aside0.mk (hp_); replace HO294 := Aside0.mk (Kd.R_after (v := (.slice (some ⟨go14, 0, none⟩) x5_1.length co21)) (v1 := (.slice (some ⟨go14, 0, none⟩) x5_1.length co21)) (ok := (fun _ => True)) (Kd.RM HO294.out (fun _ hk => ⟨trivial, hk⟩)) hg (.inl rfl)); replace HB := Aside0.mk ((by rw [hw]; exact below_set (HB.out) GB14.out : Below w.heap.size w w23)); clear hg hw hp_; have p297 : 0 ≤ ((ji15) : Int) := oD; have q297 : (ji15) < (y296.length : Int) := (by have h_ : ((ji15) : Int) < ((x5_1.length : Int) : Int) := oD; first | (have e_ := (Kd.R_reads' HO_5.out).1; omega) | simpa only [Ny296.out, List.length_set] using h_); have ql297 : (((ji15) : Int) < ((x5_1.length : Int) : Int)) = True := eq_true (oD); obtain ⟨ad297, e297, hx297_0⟩ := Kd.at_int (Kd.R_reads' HO_5.out).2.2 (ji15) p297 q297; obtain rfl : (⟨go14, 0, none⟩ : Addr) = ad297 := (by injection e297); (first | simp only [add_plain] at hx297_0 | simp only [add_at] at hx297_0 | simp only [Addr.add, Nat.zero_add] at hx297_0 | skip); replace p297 := eq_true p297; replace q297 := eq_true q297; have p18 : 0 ≤ ((ji15) : Int) := oD; have q18 : ((ji15) : Int) < ((x5_1.length : Int) : Int) := oD; obtain ⟨hx18_0, hf18_0⟩ := Kd.R_celln 0 HO_5.out ((ji15) : Int) p18 q18; replace p18 := eq_true p18; replace q18 := eq_true q18; obtain ⟨hy24_, hz24_⟩ := Kd.R_celln 0 HO_5.out ((ji15) : Int) (oD) (oD); have HP24 := Kd.R_putg HO_5.out ((ji15) : Int) (wrap64 ((rd y296 (ji15)) * t291))) | ((with_reducible refine gate_store (t := 3) (p := 54) rfl ?_); refine store_event (t := 3) (p := 54) (v := ?vo_w25) (w1 := (w23.setCell ⟨go14, ((ji15) : Int).toNat, none⟩ (.int .i64 (wrap64 ((rd y296 (ji15)) * t291))))) ?hg ?ho ?hn ?hr ?_; (case ho => rfl); (case hg => rfl); (case hn => rfl); (case hr => first | (go_simp; done) | (go_simp; rfl)); intro w25 hw; have hg : w23.grownBy w25 (some go14) := (by rw [hw]; exact HP24.2); have hp_ : Kd.R (Kd.int .i64) 3 w25 w.heap.size (fun k_ => some k_ ≠ (v293 : Value).ownBlock) (.slice (some ⟨go14, 0, none⟩) x5_1.length co21) y298 := (by rw [hw, Ny298.out]; exact HP24.1); clear HP24; replace HO_5 := Aside0.mk (hp_); replace HO294 := Aside0.mk (Kd.R_after (v := (.slice (some ⟨go14, 0, none⟩) x5_1.length co21)) (v1 := (.slice (some ⟨go14, 0, none⟩) x5_1.length co21)) (ok := (fun _ => True)) (U HO294.out) hg (.inl rfl)); replace HB := Aside0.mk ((by rw [hw]; exact below_set (HB.out) GB14.out : Below w.heap.size w w25)); clear hg hw hp_))
        go_roundg k1
        case measure => have := HK1.out; omega
        case rel => exact ⟨(y292), (y298), (wrap64 (x6_1 + 1)), sR, H', ⟨by have := HK1.out; omega⟩, ⟨Kd.RM HO294.out (fun _ hk => hk.2)⟩, ⟨U HO_5.out⟩, ⟨BU⟩⟩
      rw [if_neg c6] at H; have c6b0 : decide (x6_1 < 3) = false := decide_eq_false c6; clear c6; obtain ⟨⟨t299, t300⟩, A26, H⟩ := bnd H; replace H : (spec_l5Normal.l1 k1 x4_1 x5_1 t299 t300) = some (r1, r2) := H; have H' := Aside0.mk H; clear H; obtain ⟨Ao27, co27, eo27⟩ := Kd.R_slice HO_4.out; subst eo27
      go_wp2_with (first | ((with_reducible refine gate_callee (f := 72) rfl ?_); refine goesK (some 57) Try.func72 #[.slice Ao27 x4_1.length co27] ?_; (with_reducible refine (spec_l5Two.calls k1 _ _ x4_1 t299 t300 _ ?side1 ?side2 A26.out).mono ?_); (case side1 => exact U ((Kd.R_reads' HO_4.out).2.2)); (case side2 => exact (Kd.R_reads' HO_4.out).2.1); rintro e w28 ⟨rfl, hb⟩; refine ⟨_, rfl, ?_⟩; replace HO_4 := Aside0.mk (Kd.R_below (U HO_4.out) hb); replace HO_5 := Aside0.mk (Kd.R_below (U HO_5.out) hb); replace HB := BS hb; (try clear hb)))
      go_loopg [9, 10] k1 (fun kq v9 v10 w' => ∃ (x4_2 : List Int) (x5_2 : List Int) (x9_2 : Int) (x10_2 : Int), v9 = .int .i64 x9_2 ∧ v10 = .int .i64 x10_2 ∧ Aside0 (spec_l5Normal.l1 kq x4_2 x5_2 x9_2 x10_2 = some (r1, r2)) ∧ Aside0 (kq ≤ k1) ∧ Aside0 (Kd.R (Kd.int .i64) 3 w' w.heap.size (fun k_ => some k_ ≠ (v287 : Value).ownBlock) (.slice Ao27 x4_1.length co27) x4_2) ∧ Aside0 (Kd.R (Kd.int .i64) 3 w' w.heap.size (fun k_ => some k_ ≠ ((.slice Ao27 x4_1.length co27) : Value).ownBlock) v287 x5_2) ∧ Aside0 (Below w.heap.size w w'))
      case atStart => exact ⟨(x4_1), (x5_1), (t299), (t300), sR, sR, H', ⟨Nat.le_refl _⟩, ⟨U HO_4.out⟩, ⟨U HO_5.out⟩, ⟨BU⟩⟩
      case round =>
        clear H'; (try clear c6); (try clear c6b0); obtain ⟨x4_2, x5_2, x9_2, x10_2, rfl, rfl, HA, HK2, HO_4, HO_5, HB⟩ := hrel; have hl4_2 := (Kd.R_reads' HO_4.out).1; rw [hl4_2] at HO_4
        (try simp only [hl4_2])
        (try simp only [hl4_2] at HO_5)
        cases gk with
        | zero => exact absurd HA.out (by simp [spec_l5Normal.l1])
        | succ k2 =>
          have H := HA.out; clear HA; simp only [spec_l5Normal.l1] at H
          by_cases c29 : x9_2 > 1
          · rw [if_pos c29] at H
            have c29b0 : decide (1 < x9_2) = true := decide_eq_true c29; clear c29; obtain ⟨ji30, hji30⟩ : ∃ j_ : Int, (Int.tmod (wrap64 (x10_2 + 1)) 3) = j_ := ⟨_, rfl⟩
            replace H : (if 0 ≤ (ji30) then (if (ji30) < (x4_2.length : Int) then (if x9_2 = 0 then (none) else ((some (x4_2.set ((ji30) : Int).toNat (wrap64 (Int.tdiv (rd x4_2 (ji30)) x9_2)) : List Int)).bind fun y302 => (if 0 ≤ (Int.tmod (wrap64 (x10_2 + 2)) 3) then (if (Int.tmod (wrap64 (x10_2 + 2)) 3) < (x4_2.length : Int) then ((some (y302.set ((Int.tmod (wrap64 (x10_2 + 2)) 3) : Int).toNat (wrap64 (Int.tdiv (rd y302 (Int.tmod (wrap64 (x10_2 + 2)) 3)) x9_2)) : List Int)).bind fun y304 => (if 0 ≤ x10_2 then (if x10_2 < (x4_2.length : Int) then (if (Int.tmod (rd y304 x10_2) x9_2) = 0 then ((some (y304.set (x10_2 : Int).toNat (wrap64 (Int.tdiv (rd y304 x10_2) x9_2)) : List Int)).bind fun y307 => ((spec_l5Two.f k2 y307).bind fun bt308 => (spec_l5Normal.l1 k2 y307 x5_2 bt308.1 bt308.2))) else ((some (y304.set (x10_2 : Int).toNat (wrap64 ((rd y304 x10_2) * x9_2)) : List Int)).bind fun y311 => (if x10_2 < (x5_2.length : Int) then ((spec_l5Two.f k2 y311).bind fun bt314 => (spec_l5Normal.l1 k2 y311 (x5_2.set (x10_2 : Int).toNat (wrap64 ((rd x5_2 x10_2) * x9_2))) bt314.1 bt314.2)) else (none)))) else (none)) else (none))) else (none)) else (none)))) else (none)) else (none)) = some (r1, r2) := by first | (rw [hji30] at H; exact H) | (simp only [hji30] at H ⊢; exact H)
            obtain ⟨c31, H⟩ := ifN H; have c31b0 : decide (0 ≤ (ji30)) = true := decide_eq_true c31; clear c31; obtain ⟨c32, H⟩ := ifN H; have c32b0 : decide ((ji30) < (x4_2.length : Int)) = true := decide_eq_true c32; clear c32; obtain ⟨c33, H⟩ := ifM H; have c33b0 : (x9_2 == 0) = false := beq_eq_false_iff_ne.mpr c33; have c33b1 : (x9_2 != 0) = true := bne_iff_ne.mpr c33; obtain ⟨y302, hy302⟩ : ∃ y_ : List Int, y_ = (x4_2.set ((ji30) : Int).toNat (wrap64 (Int.tdiv (rd x4_2 (ji30)) x9_2))) := ⟨_, rfl⟩
            replace H : (if 0 ≤ (Int.tmod (wrap64 (x10_2 + 2)) 3) then (if (Int.tmod (wrap64 (x10_2 + 2)) 3) < (x4_2.length : Int) then ((some (y302.set ((Int.tmod (wrap64 (x10_2 + 2)) 3) : Int).toNat (wrap64 (Int.tdiv (rd y302 (Int.tmod (wrap64 (x10_2 + 2)) 3)) x9_2)) : List Int)).bind fun y304 => (if 0 ≤ x10_2 then (if x10_2 < (x4_2.length : Int) then (if (Int.tmod (rd y304 x10_2) x9_2) = 0 then ((some (y304.set (x10_2 : Int).toNat (wrap64 (Int.tdiv (rd y304 x10_2) x9_2)) : List Int)).bind fun y307 => ((spec_l5Two.f k2 y307).bind fun bt308 => (spec_l5Normal.l1 k2 y307 x5_2 bt308.1 bt308.2))) else ((some (y304.set (x10_2 : Int).toNat (wrap64 ((rd y304 x10_2) * x9_2)) : List Int)).bind fun y311 => (if x10_2 < (x5_2.length : Int) then ((spec_l5Two.f k2 y311).bind fun bt314 => (spec_l5Normal.l1 k2 y311 (x5_2.set (x10_2 : Int).toNat (wrap64 ((rd x5_2 x10_2) * x9_2))) bt314.1 bt314.2)) else (none)))) else (none)) else (none))) else (none)) else (none)) = some (r1, r2) := rH hy302 H
            have Ny302 := Aside0.mk hy302; clear hy302; obtain ⟨ji35, hji35⟩ : ∃ j_ : Int, (Int.tmod (wrap64 (x10_2 + 2)) 3) = j_ := ⟨_, rfl⟩
            replace H : (if 0 ≤ (ji35) then (if (ji35) < (x4_2.length : Int) then ((some (y302.set ((ji35) : Int).toNat (wrap64 (Int.tdiv (rd y302 (ji35)) x9_2)) : List Int)).bind fun y304 => (if 0 ≤ x10_2 then (if x10_2 < (x4_2.length : Int) then (if (Int.tmod (rd y304 x10_2) x9_2) = 0 then ((some (y304.set (x10_2 : Int).toNat (wrap64 (Int.tdiv (rd y304 x10_2) x9_2)) : List Int)).bind fun y307 => ((spec_l5Two.f k2 y307).bind fun bt308 => (spec_l5Normal.l1 k2 y307 x5_2 bt308.1 bt308.2))) else ((some (y304.set (x10_2 : Int).toNat (wrap64 ((rd y304 x10_2) * x9_2)) : List Int)).bind fun y311 => (if x10_2 < (x5_2.length : Int) then ((spec_l5Two.f k2 y311).bind fun bt314 => (spec_l5Normal.l1 k2 y311 (x5_2.set (x10_2 : Int).toNat (wrap64 ((rd x5_2 x10_2) * x9_2))) bt314.1 bt314.2)) else (none)))) else (none)) else (none))) else (none)) else (none)) = some (r1, r2) := by first | (rw [hji35] at H; exact H) | (simp only [hji35] at H ⊢; exact H)
            obtain ⟨c36, H⟩ := ifN H; have c36b0 : decide (0 ≤ (ji35)) = true := decide_eq_true c36; clear c36; obtain ⟨c37, H⟩ := ifN H; have c37b0 : decide ((ji35) < (x4_2.length : Int)) = true := decide_eq_true c37; clear c37; obtain ⟨y304, hy304⟩ : ∃ y_ : List Int, y_ = (y302.set ((ji35) : Int).toNat (wrap64 (Int.tdiv (rd y302 (ji35)) x9_2))) := ⟨_, rfl⟩
            replace H : (if 0 ≤ x10_2 then (if x10_2 < (x4_2.length : Int) then (if (Int.tmod (rd y304 x10_2) x9_2) = 0 then ((some (y304.set (x10_2 : Int).toNat (wrap64 (Int.tdiv (rd y304 x10_2) x9_2)) : List Int)).bind fun y307 => ((spec_l5Two.f k2 y307).bind fun bt308 => (spec_l5Normal.l1 k2 y307 x5_2 bt308.1 bt308.2))) else ((some (y304.set (x10_2 : Int).toNat (wrap64 ((rd y304 x10_2) * x9_2)) : List Int)).bind fun y311 => (if x10_2 < (x5_2.length : Int) then ((spec_l5Two.f k2 y311).bind fun bt314 => (spec_l5Normal.l1 k2 y311 (x5_2.set (x10_2 : Int).toNat (wrap64 ((rd x5_2 x10_2) * x9_2))) bt314.1 bt314.2)) else (none)))) else (none)) else (none)) = some (r1, r2) := rH hy304 H
            have Ny304 := Aside0.mk hy304; clear hy304; obtain ⟨c39, H⟩ := ifN H; have c39b0 : decide (0 ≤ x10_2) = true := decide_eq_true c39; clear c39; obtain ⟨c40, H⟩ := ifN H; have c40b0 : decide (x10_2 < (x4_2.length : Int)) = true := decide_eq_true c40; clear c40
            by_cases c41 : (Int.tmod (rd y304 x10_2) x9_2) = 0
            · rw [if_pos c41] at H
              have c41b0 : ((Int.tmod (rd y304 x10_2) x9_2) == 0) = true := beq_iff_eq.mpr c41; have c41b1 : ((Int.tmod (rd y304 x10_2) x9_2) != 0) = false := bne_eq_false_iff_eq.mpr c41; clear c41; obtain ⟨y307, hy307⟩ : ∃ y_ : List Int, y_ = (y304.set (x10_2 : Int).toNat (wrap64 (Int.tdiv (rd y304 x10_2) x9_2))) := ⟨_, rfl⟩; replace H : ((spec_l5Two.f k2 y307).bind fun bt308 => (spec_l5Normal.l1 k2 y307 x5_2 bt308.1 bt308.2)) = some (r1, r2) := rH hy307 H; have Ny307 := Aside0.mk hy307; clear hy307; obtain ⟨⟨t308, t309⟩, A43, H⟩ := bnd H; replace H : (spec_l5Normal.l1 k2 y307 x5_2 t308 t309) = some (r1, r2) := H; have H' := Aside0.mk H; clear H; have p301 : 0 ≤ ((ji30) : Int) := oD; have q301 : (ji30) < (x4_2.length : Int) := oD; obtain ⟨ad301, e301, hx301_0⟩ := Kd.at_int (Kd.R_reads' HO_4.out).2.2 (ji30) p301 q301; cases e301; replace p301 := eq_true p301; replace q301 := eq_true q301; have p34 : 0 ≤ ((ji30) : Int) := oD; have q34 : ((ji30) : Int) < ((x4_2.length : Int) : Int) := oD; obtain ⟨go34, co34, eo34, gb34, gl34, cl34, HG34⟩ := Kd.R_form HO_4.out (by omega)
              (first | cases eo34 | (injection eo34 with ea_ en_ ec_; (first | subst ea_ | (injection ea_ with ea_; subst ea_)); subst ec_; clear en_))
              have GB34 := Aside0.mk gb34; have GG34 := Aside0.mk HG34; clear gb34 gl34 HG34
              (first | simp only [add_plain] at hx301_0 | skip)
              obtain ⟨hx34_0, hf34_0⟩ := Kd.R_celln 0 HO_4.out ((ji30) : Int) p34 q34; replace p34 := eq_true p34; replace q34 := eq_true q34; have HP44 := Kd.R_putg HO_4.out ((ji30) : Int) (wrap64 (Int.tdiv (rd x4_2 (ji30)) x9_2))
              go_wp2_with (first | ((with_reducible refine gate_store (t := 3) (p := 74) rfl ?_); refine store_event (t := 3) (p := 74) (v := ?vo_w45) (w1 := (wr.setCell ⟨go34, ((ji30) : Int).toNat, none⟩ (.int .i64 (wrap64 (Int.tdiv (rd x4_2 (ji30)) x9_2))))) ?hg ?ho ?hn ?hr ?_; (case ho => rfl); (case hg => rfl); (case hn => rfl); (case hr => first | (go_simp; done) | (go_simp; rfl)); intro w45 hw; have hg : wr.grownBy w45 (some go34) := (by rw [hw]; exact HP44.2); have hp_ : Kd.R (Kd.int .i64) 3 w45 w.heap.size (fun k_ => some k_ ≠ (v287 : Value).ownBlock) (.slice (some ⟨go34, 0, none⟩) x4_2.length co27) y302 := (by rw [hw, Ny302.out]; exact HP44.1); clear HP44; replace HO_4 := Aside0.mk (hp_); replace HO_5 := Aside0.mk (Kd.R_after (v := (.slice (some ⟨go34, 0, none⟩) x4_2.length co27)) (v1 := (.slice (some ⟨go34, 0, none⟩) x4_2.length co27)) (ok := (fun _ => True)) (Kd.RM HO_5.out (fun _ hk => ⟨trivial, hk⟩)) hg (.inl rfl)); replace HB := Aside0.mk ((by rw [hw]; exact below_set (HB.out) GB34.out : Below w.heap.size w w45)); clear hg hw hp_; have p303 : 0 ≤ ((ji35) : Int) := oD; have q303 : (ji35) < (y302.length : Int) := (by have h_ : ((ji35) : Int) < ((x4_2.length : Int) : Int) := oD; first | (have e_ := (Kd.R_reads' HO_4.out).1; omega) | simpa only [Ny302.out, List.length_set] using h_); have ql303 : (((ji35) : Int) < ((x4_2.length : Int) : Int)) = True := eq_true (oD); obtain ⟨ad303, e303, hx303_0⟩ := Kd.at_int (Kd.R_reads' HO_4.out).2.2 (ji35) p303 q303; obtain rfl : (⟨go34, 0, none⟩ : Addr) = ad303 := (by injection e303); (first | simp only [add_plain] at hx303_0 | simp only [add_at] at hx303_0 | simp only [Addr.add, Nat.zero_add] at hx303_0 | skip); replace p303 := eq_true p303; replace q303 := eq_true q303; have p38 : 0 ≤ ((ji35) : Int) := oD; have q38 : ((ji35) : Int) < ((x4_2.length : Int) : Int) := oD; obtain ⟨hx38_0, hf38_0⟩ := Kd.R_celln 0 HO_4.out ((ji35) : Int) p38 q38; replace p38 := eq_true p38; replace q38 := eq_true q38; obtain ⟨hy46_, hz46_⟩ := Kd.R_celln 0 HO_4.out ((ji35) : Int) (oD) (oD); have HP46 := Kd.R_putg HO_4.out ((ji35) : Int) (wrap64 (Int.tdiv (rd y302 (ji35)) x9_2))) | ((with_reducible refine gate_store (t := 3) (p := 87) rfl ?_); refine store_event (t := 3) (p := 87) (v := ?vo_w47) (w1 := (w45.setCell ⟨go34, ((ji35) : Int).toNat, none⟩ (.int .i64 (wrap64 (Int.tdiv (rd y302 (ji35)) x9_2))))) ?hg ?ho ?hn ?hr ?_; (case ho => rfl); (case hg => rfl); (case hn => rfl); (case hr => first | (go_simp; done) | (go_simp; rfl)); intro w47 hw; have hg : w45.grownBy w47 (some go34) := (by rw [hw]; exact HP46.2); have hp_ : Kd.R (Kd.int .i64) 3 w47 w.heap.size (fun k_ => some k_ ≠ (v287 : Value).ownBlock) (.slice (some ⟨go34, 0, none⟩) x4_2.length co27) y304 := (by rw [hw, Ny304.out]; exact HP46.1); clear HP46; replace HO_4 := Aside0.mk (hp_); replace HO_5 := Aside0.mk (Kd.R_after (v := (.slice (some ⟨go34, 0, none⟩) x4_2.length co27)) (v1 := (.slice (some ⟨go34, 0, none⟩) x4_2.length co27)) (ok := (fun _ => True)) (U HO_5.out) hg (.inl rfl)); replace HB := Aside0.mk ((by rw [hw]; exact below_set (HB.out) GB34.out : Below w.heap.size w w47)); clear hg hw hp_; have p305 : 0 ≤ (x10_2 : Int) := oD; have q305 : x10_2 < (y304.length : Int) := (by have h_ : (x10_2 : Int) < ((x4_2.length : Int) : Int) := oD; first | (have e_ := (Kd.R_reads' HO_4.out).1; omega) | simpa only [Ny302.out, Ny304.out, List.length_set] using h_); have ql305 : ((x10_2 : Int) < ((x4_2.length : Int) : Int)) = True := eq_true (oD); obtain ⟨ad305, e305, hx305_0⟩ := Kd.at_int (Kd.R_reads' HO_4.out).2.2 x10_2 p305 q305; obtain rfl : (⟨go34, 0, none⟩ : Addr) = ad305 := (by injection e305); (first | simp only [add_plain] at hx305_0 | simp only [add_at] at hx305_0 | simp only [Addr.add, Nat.zero_add] at hx305_0 | skip); replace p305 := eq_true p305; replace q305 := eq_true q305; have p306 : 0 ≤ (x10_2 : Int) := oD; have q306 : x10_2 < (y304.length : Int) := (by have h_ : (x10_2 : Int) < ((x4_2.length : Int) : Int) := oD; first | (have e_ := (Kd.R_reads' HO_4.out).1; omega) | simpa only [Ny302.out, Ny304.out, List.length_set] using h_); have ql306 : ((x10_2 : Int) < ((x4_2.length : Int) : Int)) = True := eq_true (oD); obtain ⟨ad306, e306, hx306_0⟩ := Kd.at_int (Kd.R_reads' HO_4.out).2.2 x10_2 p306 q306; obtain rfl : (⟨go34, 0, none⟩ : Addr) = ad306 := (by injection e306); (first | simp only [add_plain] at hx306_0 | simp only [add_at] at hx306_0 | simp only [Addr.add, Nat.zero_add] at hx306_0 | skip); replace p306 := eq_true p306; replace q306 := eq_true q306; have p42 : 0 ≤ (x10_2 : Int) := oD; have q42 : (x10_2 : Int) < ((x4_2.length : Int) : Int) := oD; obtain ⟨hx42_0, hf42_0⟩ := Kd.R_celln 0 HO_4.out (x10_2 : Int) p42 q42; replace p42 := eq_true p42; replace q42 := eq_true q42; obtain ⟨hy48_, hz48_⟩ := Kd.R_celln 0 HO_4.out (x10_2 : Int) (oD) (oD); have HP48 := Kd.R_putg HO_4.out (x10_2 : Int) (wrap64 (Int.tdiv (rd y304 x10_2) x9_2))) | ((with_reducible refine gate_store (t := 3) (p := 103) rfl ?_); refine store_event (t := 3) (p := 103) (v := ?vo_w49) (w1 := (w47.setCell ⟨go34, (x10_2 : Int).toNat, none⟩ (.int .i64 (wrap64 (Int.tdiv (rd y304 x10_2) x9_2))))) ?hg ?ho ?hn ?hr ?_; (case ho => rfl); (case hg => rfl); (case hn => rfl); (case hr => first | (go_simp; done) | (go_simp; rfl)); intro w49 hw; have hg : w47.grownBy w49 (some go34) := (by rw [hw]; exact HP48.2); have hp_ : Kd.R (Kd.int .i64) 3 w49 w.heap.size (fun k_ => some k_ ≠ (v287 : Value).ownBlock) (.slice (some ⟨go34, 0, none⟩) x4_2.length co27) y307 := (by rw [hw, Ny307.out]; exact HP48.1); clear HP48; replace HO_4 := Aside0.mk (hp_); replace HO_5 := Aside0.mk (Kd.R_after (v := (.slice (some ⟨go34, 0, none⟩) x4_2.length co27)) (v1 := (.slice (some ⟨go34, 0, none⟩) x4_2.length co27)) (ok := (fun _ => True)) (U HO_5.out) hg (.inl rfl)); replace HB := Aside0.mk ((by rw [hw]; exact below_set (HB.out) GB34.out : Below w.heap.size w w49)); clear hg hw hp_) | ((with_reducible refine gate_callee (f := 72) rfl ?_); refine goesL_ (some 124) rfl rfl Try.func72 (by kernel_rfl) rfl #[.slice (some ⟨go34, 0, none⟩) y307.length co27] rfl (by (try simp only [List.map_toArray, List.map_cons, List.map_nil]); first | done | (rw [show y307.length = x4_2.length from (Kd.R_reads' HO_4.out).1.symm] <;> rfl) | rfl | (simp only [List.length_drop, List.length_take]; rfl)) ?_; (with_reducible refine (spec_l5Two.calls k2 _ _ y307 t308 t309 _ ?side1 ?side2 A43.out).mono ?_); (case side1 => exact U ((Kd.R_reads' HO_4.out).2.2)); (case side2 => rw [show y307.length = x4_2.length from (Kd.R_reads' HO_4.out).1.symm]; exact (Kd.R_reads' HO_4.out).2.1); rintro e w50 ⟨rfl, hb⟩; refine ⟨_, rfl, ?_⟩; replace HO_4 := Aside0.mk (Kd.R_below (U HO_4.out) hb); replace HO_5 := Aside0.mk (Kd.R_below (U HO_5.out) hb); replace HB := BS hb; (try clear hb)))
              (try simp only [← hl4_2])
              go_roundg k2
              case measure => have := HK1.out; have := HK2.out; omega
              case rel => exact ⟨(y307), (x5_2), (t308), (t309), sR, sR, H', ⟨by have := HK1.out; have := HK2.out; omega⟩, ⟨by (try simp only [hl4_2]); (with_reducible repeat (first | apply Kd.R_alloc | apply Kd.R_drewN | apply Kd.R_drew)); exact HO_4.out⟩, ⟨by (try simp only [hl4_2]); (with_reducible repeat (first | apply Kd.R_alloc | apply Kd.R_drewN | apply Kd.R_drew)); exact Kd.R_mono HO_5.out (fun _ hk => hk.2)⟩, ⟨BU⟩⟩
            rw [if_neg c41] at H; have c41b0 : ((Int.tmod (rd y304 x10_2) x9_2) == 0) = false := beq_eq_false_iff_ne.mpr c41; have c41b1 : ((Int.tmod (rd y304 x10_2) x9_2) != 0) = true := bne_iff_ne.mpr c41; obtain ⟨y311, hy311⟩ : ∃ y_ : List Int, y_ = (y304.set (x10_2 : Int).toNat (wrap64 ((rd y304 x10_2) * x9_2))) := ⟨_, rfl⟩
            replace H : (if x10_2 < (x5_2.length : Int) then ((spec_l5Two.f k2 y311).bind fun bt314 => (spec_l5Normal.l1 k2 y311 (x5_2.set (x10_2 : Int).toNat (wrap64 ((rd x5_2 x10_2) * x9_2))) bt314.1 bt314.2)) else (none)) = some (r1, r2) := rH hy311 H
            have Ny311 := Aside0.mk hy311; clear hy311; obtain ⟨c52, H⟩ := ifN H; have c52b0 : decide (x10_2 < (x5_2.length : Int)) = true := decide_eq_true c52; clear c52; obtain ⟨y313, hy313⟩ : ∃ y_ : List Int, y_ = (x5_2.set (x10_2 : Int).toNat (wrap64 ((rd x5_2 x10_2) * x9_2))) := ⟨_, rfl⟩; replace H : ((spec_l5Two.f k2 y311).bind fun bt314 => (spec_l5Normal.l1 k2 y311 y313 bt314.1 bt314.2)) = some (r1, r2) := rH hy313 H; have Ny313 := Aside0.mk hy313; clear hy313; obtain ⟨⟨t314, t315⟩, A54, H⟩ := bnd H; replace H : (spec_l5Normal.l1 k2 y311 y313 t314 t315) = some (r1, r2) := H; have H' := Aside0.mk H; clear H; have p301 : 0 ≤ ((ji30) : Int) := oD; have q301 : (ji30) < (x4_2.length : Int) := oD; obtain ⟨ad301, e301, hx301_0⟩ := Kd.at_int (Kd.R_reads' HO_4.out).2.2 (ji30) p301 q301; cases e301; replace p301 := eq_true p301; replace q301 := eq_true q301; have p34 : 0 ≤ ((ji30) : Int) := oD; have q34 : ((ji30) : Int) < ((x4_2.length : Int) : Int) := oD; obtain ⟨go34, co34, eo34, gb34, gl34, cl34, HG34⟩ := Kd.R_form HO_4.out (by omega)
            (first | cases eo34 | (injection eo34 with ea_ en_ ec_; (first | subst ea_ | (injection ea_ with ea_; subst ea_)); subst ec_; clear en_))
            have GB34 := Aside0.mk gb34; have GG34 := Aside0.mk HG34; clear gb34 gl34 HG34
            (first | simp only [add_plain] at hx301_0 | skip)
            obtain ⟨hx34_0, hf34_0⟩ := Kd.R_celln 0 HO_4.out ((ji30) : Int) p34 q34; replace p34 := eq_true p34; replace q34 := eq_true q34; have HP55 := Kd.R_putg HO_4.out ((ji30) : Int) (wrap64 (Int.tdiv (rd x4_2 (ji30)) x9_2))
            go_wp2_with (first | ((with_reducible refine gate_store (t := 3) (p := 74) rfl ?_); refine store_event (t := 3) (p := 74) (v := ?vo_w56) (w1 := (wr.setCell ⟨go34, ((ji30) : Int).toNat, none⟩ (.int .i64 (wrap64 (Int.tdiv (rd x4_2 (ji30)) x9_2))))) ?hg ?ho ?hn ?hr ?_; (case ho => rfl); (case hg => rfl); (case hn => rfl); (case hr => first | (go_simp; done) | (go_simp; rfl)); intro w56 hw; have hg : wr.grownBy w56 (some go34) := (by rw [hw]; exact HP55.2); have hp_ : Kd.R (Kd.int .i64) 3 w56 w.heap.size (fun k_ => some k_ ≠ (v287 : Value).ownBlock) (.slice (some ⟨go34, 0, none⟩) x4_2.length co27) y302 := (by rw [hw, Ny302.out]; exact HP55.1); clear HP55; replace HO_4 := Aside0.mk (hp_); replace HO_5 := Aside0.mk (Kd.R_after (v := (.slice (some ⟨go34, 0, none⟩) x4_2.length co27)) (v1 := (.slice (some ⟨go34, 0, none⟩) x4_2.length co27)) (ok := (fun _ => True)) (Kd.RM HO_5.out (fun _ hk => ⟨trivial, hk⟩)) hg (.inl rfl)); replace HB := Aside0.mk ((by rw [hw]; exact below_set (HB.out) GB34.out : Below w.heap.size w w56)); clear hg hw hp_; have p303 : 0 ≤ ((ji35) : Int) := oD; have q303 : (ji35) < (y302.length : Int) := (by have h_ : ((ji35) : Int) < ((x4_2.length : Int) : Int) := oD; first | (have e_ := (Kd.R_reads' HO_4.out).1; omega) | simpa only [Ny302.out, List.length_set] using h_); have ql303 : (((ji35) : Int) < ((x4_2.length : Int) : Int)) = True := eq_true (oD); obtain ⟨ad303, e303, hx303_0⟩ := Kd.at_int (Kd.R_reads' HO_4.out).2.2 (ji35) p303 q303; obtain rfl : (⟨go34, 0, none⟩ : Addr) = ad303 := (by injection e303); (first | simp only [add_plain] at hx303_0 | simp only [add_at] at hx303_0 | simp only [Addr.add, Nat.zero_add] at hx303_0 | skip); replace p303 := eq_true p303; replace q303 := eq_true q303; have p38 : 0 ≤ ((ji35) : Int) := oD; have q38 : ((ji35) : Int) < ((x4_2.length : Int) : Int) := oD; obtain ⟨hx38_0, hf38_0⟩ := Kd.R_celln 0 HO_4.out ((ji35) : Int) p38 q38; replace p38 := eq_true p38; replace q38 := eq_true q38; obtain ⟨hy57_, hz57_⟩ := Kd.R_celln 0 HO_4.out ((ji35) : Int) (oD) (oD); have HP57 := Kd.R_putg HO_4.out ((ji35) : Int) (wrap64 (Int.tdiv (rd y302 (ji35)) x9_2))) | ((with_reducible refine gate_store (t := 3) (p := 87) rfl ?_); refine store_event (t := 3) (p := 87) (v := ?vo_w58) (w1 := (w56.setCell ⟨go34, ((ji35) : Int).toNat, none⟩ (.int .i64 (wrap64 (Int.tdiv (rd y302 (ji35)) x9_2))))) ?hg ?ho ?hn ?hr ?_; (case ho => rfl); (case hg => rfl); (case hn => rfl); (case hr => first | (go_simp; done) | (go_simp; rfl)); intro w58 hw; have hg : w56.grownBy w58 (some go34) := (by rw [hw]; exact HP57.2); have hp_ : Kd.R (Kd.int .i64) 3 w58 w.heap.size (fun k_ => some k_ ≠ (v287 : Value).ownBlock) (.slice (some ⟨go34, 0, none⟩) x4_2.length co27) y304 := (by rw [hw, Ny304.out]; exact HP57.1); clear HP57; replace HO_4 := Aside0.mk (hp_); replace HO_5 := Aside0.mk (Kd.R_after (v := (.slice (some ⟨go34, 0, none⟩) x4_2.length co27)) (v1 := (.slice (some ⟨go34, 0, none⟩) x4_2.length co27)) (ok := (fun _ => True)) (U HO_5.out) hg (.inl rfl)); replace HB := Aside0.mk ((by rw [hw]; exact below_set (HB.out) GB34.out : Below w.heap.size w w58)); clear hg hw hp_; have p305 : 0 ≤ (x10_2 : Int) := oD; have q305 : x10_2 < (y304.length : Int) := (by have h_ : (x10_2 : Int) < ((x4_2.length : Int) : Int) := oD; first | (have e_ := (Kd.R_reads' HO_4.out).1; omega) | simpa only [Ny302.out, Ny304.out, List.length_set] using h_); have ql305 : ((x10_2 : Int) < ((x4_2.length : Int) : Int)) = True := eq_true (oD); obtain ⟨ad305, e305, hx305_0⟩ := Kd.at_int (Kd.R_reads' HO_4.out).2.2 x10_2 p305 q305; obtain rfl : (⟨go34, 0, none⟩ : Addr) = ad305 := (by injection e305); (first | simp only [add_plain] at hx305_0 | simp only [add_at] at hx305_0 | simp only [Addr.add, Nat.zero_add] at hx305_0 | skip); replace p305 := eq_true p305; replace q305 := eq_true q305; have p310 : 0 ≤ (x10_2 : Int) := oD; have q310 : x10_2 < (y304.length : Int) := (by have h_ : (x10_2 : Int) < ((x4_2.length : Int) : Int) := oD; first | (have e_ := (Kd.R_reads' HO_4.out).1; omega) | simpa only [Ny302.out, Ny304.out, List.length_set] using h_); have ql310 : ((x10_2 : Int) < ((x4_2.length : Int) : Int)) = True := eq_true (oD); obtain ⟨ad310, e310, hx310_0⟩ := Kd.at_int (Kd.R_reads' HO_4.out).2.2 x10_2 p310 q310; obtain rfl : (⟨go34, 0, none⟩ : Addr) = ad310 := (by injection e310); (first | simp only [add_plain] at hx310_0 | simp only [add_at] at hx310_0 | simp only [Addr.add, Nat.zero_add] at hx310_0 | skip); replace p310 := eq_true p310; replace q310 := eq_true q310; have p51 : 0 ≤ (x10_2 : Int) := oD; have q51 : (x10_2 : Int) < ((x4_2.length : Int) : Int) := oD; obtain ⟨hx51_0, hf51_0⟩ := Kd.R_celln 0 HO_4.out (x10_2 : Int) p51 q51; replace p51 := eq_true p51; replace q51 := eq_true q51; obtain ⟨hy59_, hz59_⟩ := Kd.R_celln 0 HO_4.out (x10_2 : Int) (oD) (oD); have HP59 := Kd.R_putg HO_4.out (x10_2 : Int) (wrap64 ((rd y304 x10_2) * x9_2))) | ((with_reducible refine gate_store (t := 3) (p := 112) rfl ?_); refine store_event (t := 3) (p := 112) (v := ?vo_w60) (w1 := (w58.setCell ⟨go34, (x10_2 : Int).toNat, none⟩ (.int .i64 (wrap64 ((rd y304 x10_2) * x9_2))))) ?hg ?ho ?hn ?hr ?_; (case ho => rfl); (case hg => rfl); (case hn => rfl); (case hr => first | (go_simp; done) | (go_simp; rfl)); intro w60 hw; have hg : w58.grownBy w60 (some go34) := (by rw [hw]; exact HP59.2); have hp_ : Kd.R (Kd.int .i64) 3 w60 w.heap.size (fun k_ => some k_ ≠ (v287 : Value).ownBlock) (.slice (some ⟨go34, 0, none⟩) x4_2.length co27) y311 := (by rw [hw, Ny311.out]; exact HP59.1); clear HP59; replace HO_4 := Aside0.mk (hp_); replace HO_5 := Aside0.mk (Kd.R_after (v := (.slice (some ⟨go34, 0, none⟩) x4_2.length co27)) (v1 := (.slice (some ⟨go34, 0, none⟩) x4_2.length co27)) (ok := (fun _ => True)) (U HO_5.out) hg (.inl rfl)); replace HB := Aside0.mk ((by rw [hw]; exact below_set (HB.out) GB34.out : Below w.heap.size w w60)); clear hg hw hp_; obtain ⟨Ao61, co61, eo61⟩ := Kd.R_slice HO_5.out; subst eo61; have p312 : 0 ≤ (x10_2 : Int) := oD; have q312 : x10_2 < (x5_2.length : Int) := oD; obtain ⟨ad312, e312, hx312_0⟩ := Kd.at_int (Kd.R_reads' HO_5.out).2.2 x10_2 p312 q312; cases e312; replace p312 := eq_true p312; replace q312 := eq_true q312; have p53 : 0 ≤ (x10_2 : Int) := oD; have q53 : (x10_2 : Int) < ((x5_2.length : Int) : Int) := oD; obtain ⟨go53, co53, eo53, gb53, gl53, cl53, HG53⟩ := Kd.R_form HO_5.out (by omega); (first | cases eo53 | (injection eo53 with ea_ en_ ec_; (first | subst ea_ | (injection ea_ with ea_; subst ea_)); subst ec_; clear en_)); have GB53 := Aside0.mk gb53; have GG53 := Aside0.mk HG53; clear gb53 gl53 HG53; (first | simp only [add_plain] at hx312_0 | skip); obtain ⟨hx53_0, hf53_0⟩ := Kd.R_celln 0 HO_5.out (x10_2 : Int) p53 q53; replace p53 := eq_true p53; replace q53 := eq_true q53; have n_ := Aside0.mk (Kd.R_mono (ok' := (fun k_ => some k_ ≠ (.slice (some ⟨go34, 0, none⟩) x4_2.length co27 : Value).ownBlock)) HO_5.out (fun k_ hk => hk.2)); clear HO_5; have HO_5 := n_; clear n_; obtain ⟨hy62_, hz62_⟩ := Kd.R_celln 0 HO_5.out (x10_2 : Int) (oD) (oD); have HP62 := Kd.R_putg HO_5.out (x10_2 : Int) (wrap64 ((rd x5_2 x10_2) * x9_2))) | ((with_reducible refine gate_store (t := 3) (p := 121) rfl ?_); refine store_event (t := 3) (p := 121) (v := ?vo_w63) (w1 := (w60.setCell ⟨go53, (x10_2 : Int).toNat, none⟩ (.int .i64 (wrap64 ((rd x5_2 x10_2) * x9_2))))) ?hg ?ho ?hn ?hr ?_; (case ho => rfl); (case hg => rfl); (case hn => rfl); (case hr => first | (go_simp; done) | (go_simp; rfl)); intro w63 hw; have hg : w60.grownBy w63 (some go53) := (by rw [hw]; exact HP62.2); have hp_ : Kd.R (Kd.int .i64) 3 w63 w.heap.size (fun k_ => some k_ ≠ (.slice (some ⟨go34, 0, none⟩) x4_2.length co27 : Value).ownBlock) (.slice (some ⟨go53, 0, none⟩) x5_2.length co61) y313 := (by rw [hw, Ny313.out]; exact HP62.1); clear HP62; replace HO_4 := Aside0.mk (Kd.R_after (v := (.slice (some ⟨go53, 0, none⟩) x5_2.length co61)) (v1 := (.slice (some ⟨go53, 0, none⟩) x5_2.length co61)) (ok := (fun _ => True)) (Kd.RM HO_4.out (fun _ hk => ⟨trivial, hk⟩)) hg (.inl rfl)); replace HO_5 := Aside0.mk (hp_); replace HB := Aside0.mk ((by rw [hw]; exact below_set (HB.out) GB53.out : Below w.heap.size w w63)); clear hg hw hp_) | ((with_reducible refine gate_callee (f := 72) rfl ?_); refine goesL_ (some 124) rfl rfl Try.func72 (by kernel_rfl) rfl #[.slice (some ⟨go34, 0, none⟩) y311.length co27] rfl (by (try simp only [List.map_toArray, List.map_cons, List.map_nil]); first | done | (rw [show y311.length = x4_2.length from (Kd.R_reads' HO_4.out).1.symm] <;> rfl) | rfl | (simp only [List.length_drop, List.length_take]; rfl)) ?_; (with_reducible refine (spec_l5Two.calls k2 _ _ y311 t314 t315 _ ?side1 ?side2 A54.out).mono ?_); (case side1 => exact U ((Kd.R_reads' HO_4.out).2.2)); (case side2 => rw [show y311.length = x4_2.length from (Kd.R_reads' HO_4.out).1.symm]; exact (Kd.R_reads' HO_4.out).2.1); rintro e w64 ⟨rfl, hb⟩; refine ⟨_, rfl, ?_⟩; replace HO_4 := Aside0.mk (Kd.R_below (U HO_4.out) hb); replace HO_5 := Aside0.mk (Kd.R_below (U HO_5.out) hb); replace HB := BS hb; (try clear hb)))
            (try simp only [← hl4_2])
            go_roundg k2
            case measure => have := HK1.out; have := HK2.out; omega
            case rel => exact ⟨(y311), (y313), (t314), (t315), sR, sR, H', ⟨by have := HK1.out; have := HK2.out; omega⟩, ⟨by (try simp only [hl4_2]); (with_reducible repeat (first | apply Kd.R_alloc | apply Kd.R_drewN | apply Kd.R_drew)); exact Kd.R_mono HO_4.out (fun _ hk => hk.2)⟩, ⟨by (try simp only [hl4_2]); (with_reducible repeat (first | apply Kd.R_alloc | apply Kd.R_drewN | apply Kd.R_drew)); exact HO_5.out⟩, ⟨BU⟩⟩
          rw [if_neg c29] at H; have c29b0 : decide (1 < x9_2) = false := decide_eq_false c29; clear c29; simp only [Option.some.injEq, Prod.mk.injEq] at H; obtain ⟨rfl, rfl⟩ := H
          go_wp2
          go_ret2
          exact ⟨_, _, by first | rfl | (simp [errW_none, errW_some] <;> rfl) | (simp [*, errW_none, errW_some] <;> rfl), U HO_4.out, U HO_5.out, BU⟩

end Go.Proofs.Ytpaohkhmhdhibaa.PFnConicMany
