-- Written by a program of this session (wip/print2.py): the functions that the law reaches, plain, and the walks.
import Derived.Test.YtpaohkhmhdhibaaPFnAtx0
import Derived.Test.YtpaohkhmhdhibaaPFnAtx9
import Derived.Test.YtpaohkhmhdhibaaPFnAtx10
import Derived.Test.YtpaohkhmhdhibaaPFnAtx11
namespace Go.Proofs.Ytpaohkhmhdhibaa.PFnAt
open Go.RowKit Go.Proofs.YtpaohkhmhdhibaaW.PrintWords Go.Proofs.YtpaohkhmhdhibaaW.PrintLast Go.Proofs.YtpaohkhmhdhibaaW.PrintMore
attribute [local go_sem] max2_int min2_int max_two min_two max_three min_three max_four min_four   -- for this text's walks alone
set_option linter.unusedVariables false
set_option linter.unusedSimpArgs false

/-! ### spec_l5Three: function 68 -/
def spec_l5Three.f (k : Nat) (l0 : List Int) : Option (List Int × Bool) := (spec_l5Normal.f k l0).bind fun bt358 => ((spec_l5Search.f k bt358.1).bind fun bt364 => (if bt364.2 = true then (if 0 < (bt358.2.length : Int) then (if 0 < (bt364.1.length : Int) then (if 1 < (bt358.2.length : Int) then (if 1 < (bt364.1.length : Int) then (if 2 < (bt358.2.length : Int) then (if 2 < (bt364.1.length : Int) then ((spec_l5Plain.f k (([wrap64 ((rd bt358.2 0) * (rd bt364.1 0)), wrap64 ((rd bt358.2 1) * (rd bt364.1 1)), wrap64 ((rd bt358.2 2) * (rd bt364.1 2))] : List Int))).bind fun t377 => (some (t377, true))) else (none)) else (none)) else (none)) else (none)) else (none)) else (none)) else (some ((([] : List Int)), false))))
theorem spec_l5Three.mono : ∀ a0 k, LeO (spec_l5Three.f k a0) (spec_l5Three.f (k + 1) a0) := by
  intro a0 k
  unfold spec_l5Three.f
  repeat' first
      | (with_reducible exact spec_l5Normal.mono _ _)
      | (with_reducible exact spec_l5Plain.mono _ _)
      | (with_reducible exact spec_l5Search.mono _ _)
      | (with_reducible exact LeO.refl _)
      | (with_reducible exact LeO.none _)
      | (with_reducible refine LeO.ite ?_ ?_)
      | (with_reducible refine LeO.bind ?_ (fun _ => ?_))
      | exact spec_l5Normal.mono _ _
      | exact spec_l5Plain.mono _ _
      | exact spec_l5Search.mono _ _
      | exact LeO.none _
      | refine LeO.ite ?_ ?_
      | refine LeO.bind ?_ (fun _ => ?_)
def spec_l5Three.T5 : Bool × List (List Nat × List Nat) := (true, [([], []), ([0], [0]), ([1], [1]), ([], []), ([3], [3]), ([4], [4]), ([2, 5], [2, 5]), ([], []), ([7], [7]), ([8], [8]), ([], []), ([10], [10]), ([11], [11]), ([9, 12], [9, 12]), ([], []), ([14], [14]), ([15], [15]), ([], []), ([17], [17]), ([18], [18]), ([16, 19], [16, 19]), ([6, 13, 20], [6, 13, 20]), ([21], [21]), ([22, 22, 0, 1, 2, 3, 4, 5, 6, 7, 8, 9, 10, 11, 12, 13, 14, 15, 16, 17, 18, 19, 20, 21, 22], [22]), ([23, 0, 1, 2, 3, 4, 5, 6, 7, 8, 9, 10, 11, 12, 13, 14, 15, 16, 17, 18, 19, 20, 21, 22, 23], [])])
def spec_l5Three.B5 : List Nat := [0, 1, 3, 0, 8, 24, 63, 0, 128, 384, 0, 1024, 3072, 8064, 0, 16384, 49152, 0, 131072, 393216, 1032192, 2097151, 4194303, 8388607, 16777215]
theorem spec_l5Three.tab5 : rtab .any (opsOf Try.f68 5) = spec_l5Three.T5 := by kernel_rfl
theorem spec_l5Three.bits5 : waitsOk spec_l5Three.T5.2 spec_l5Three.B5 = true := by kernel_rfl
set_option maxHeartbeats 8000000 in
set_option maxRecDepth 100000 in
theorem spec_l5Three.calls (k : Nat) (A0 : Option Addr) (c0 : Nat) (l0 : List Int) (r1 : List Int) (r2 : Bool) (w : World) (hr0 : Kd.C (Kd.int .i64) w A0 l0.length l0) (hc0 : l0.length ≤ c0) (h : spec_l5Three.f k l0 = some (r1, r2)) :
    Calls Try.prog 68 #[.slice A0 l0.length c0] w fun e w' => ∃ v0_ : Value, e = .returned (.tuple #[v0_, .bool r2]) ∧ Kd.R (Kd.int .i64) 3 w' w.heap.size (fun _ => True) v0_ r1 ∧ Below w.heap.size w w' := by
  have HR0 := Aside0.mk hr0; have HC0 := Aside0.mk hc0; clear hr0 hc0; have HB := Aside0.mk (Below.refl w.heap.size w); unfold spec_l5Three.f at h; have H := h; clear h; obtain ⟨⟨t358, t359⟩, A2, H⟩ := bnd H
  replace H : ((spec_l5Search.f k t358).bind fun bt364 => (if bt364.2 = true then (if 0 < (t359.length : Int) then (if 0 < (bt364.1.length : Int) then (if 1 < (t359.length : Int) then (if 1 < (bt364.1.length : Int) then (if 2 < (t359.length : Int) then (if 2 < (bt364.1.length : Int) then ((spec_l5Plain.f k (([wrap64 ((rd t359 0) * (rd bt364.1 0)), wrap64 ((rd t359 1) * (rd bt364.1 1)), wrap64 ((rd t359 2) * (rd bt364.1 2))] : List Int))).bind fun t377 => (some (t377, true))) else (none)) else (none)) else (none)) else (none)) else (none)) else (none)) else (some ((([] : List Int)), false)))) = some (r1, r2) := H
  obtain ⟨⟨t364, t365⟩, A3, H⟩ := bnd H
  replace H : (if t365 = true then (if 0 < (t359.length : Int) then (if 0 < (t364.length : Int) then (if 1 < (t359.length : Int) then (if 1 < (t364.length : Int) then (if 2 < (t359.length : Int) then (if 2 < (t364.length : Int) then ((spec_l5Plain.f k (([wrap64 ((rd t359 0) * (rd t364 0)), wrap64 ((rd t359 1) * (rd t364 1)), wrap64 ((rd t359 2) * (rd t364 2))] : List Int))).bind fun t377 => (some (t377, true))) else (none)) else (none)) else (none)) else (none)) else (none)) else (none)) else (some ((([] : List Int)), false))) = some (r1, r2) := H
  by_cases c4 : t365 = true
  · subst c4
    replace H := ifT H; obtain ⟨c5, H⟩ := ifN H; have c5b0 : decide (0 < (t359.length : Int)) = true := decide_eq_true c5; have c5b1 : decide (0 < t359.length) = true := decide_eq_true (by omega); clear c5; obtain ⟨c6, H⟩ := ifN H; have c6b0 : decide (0 < (t364.length : Int)) = true := decide_eq_true c6; have c6b1 : decide (0 < t364.length) = true := decide_eq_true (by omega); clear c6; obtain ⟨c7, H⟩ := ifN H; have c7b0 : decide (1 < (t359.length : Int)) = true := decide_eq_true c7; have c7b1 : decide (1 < t359.length) = true := decide_eq_true (by omega); clear c7; obtain ⟨c8, H⟩ := ifN H; have c8b0 : decide (1 < (t364.length : Int)) = true := decide_eq_true c8; have c8b1 : decide (1 < t364.length) = true := decide_eq_true (by omega); clear c8; obtain ⟨c9, H⟩ := ifN H; have c9b0 : decide (2 < (t359.length : Int)) = true := decide_eq_true c9; have c9b1 : decide (2 < t359.length) = true := decide_eq_true (by omega); clear c9; obtain ⟨c10, H⟩ := ifN H; have c10b0 : decide (2 < (t364.length : Int)) = true := decide_eq_true c10; have c10b1 : decide (2 < t364.length) = true := decide_eq_true (by omega); clear c10; obtain ⟨y374, hy374⟩ : ∃ y_ : List Int, y_ = (([wrap64 ((rd t359 0) * (rd t364 0)), wrap64 ((rd t359 1) * (rd t364 1)), wrap64 ((rd t359 2) * (rd t364 2))] : List Int)) := ⟨_, rfl⟩; replace H : ((spec_l5Plain.f k y374).bind fun t377 => (some (t377, true))) = some (r1, r2) := rH hy374 H; have Ny374 := Aside0.mk hy374; clear hy374; obtain ⟨t377, A11, H⟩ := bnd H; simp only [Option.some.injEq, Prod.mk.injEq] at H; obtain ⟨rfl, rfl⟩ := H; go_enter Try.func68, Try.ntmps68
    try go_wp2_with (first | ((with_reducible refine gate_callee (f := 70) rfl ?_); refine goesK (some 10) Try.func70 #[.slice A0 l0.length c0] ?_; (with_reducible refine (spec_l5Normal.calls k _ _ l0 t358 t359 _ ?side1 ?side2 A2.out).mono ?_); (case side1 => exact U HR0.out); (case side2 => exact HC0.out); rintro e w12 ⟨v360, v362, rfl, ho0, ho1, hb⟩; refine ⟨_, rfl, ?_⟩; have HO361 := Aside0.mk (Kd.R_lower ho0 (below_size BU)); have HO363 := Aside0.mk (Kd.R_lower ho1 (below_size BU)); replace HB := BS hb; (try clear hb); (try clear ho0); (try clear ho1); obtain ⟨Ao13, co13, eo13⟩ := Kd.R_slice HO361.out; subst eo13) | ((with_reducible refine gate_callee (f := 71) rfl ?_); refine goesK (some 15) Try.func71 #[.slice Ao13 t358.length co13] ?_; (with_reducible refine (spec_l5Search.calls k _ _ t358 t364 true _ ?side1 ?side2 A3.out).mono ?_); (case side1 => exact U ((Kd.R_reads' HO361.out).2.2)); (case side2 => exact (Kd.R_reads' HO361.out).2.1); rintro e w14 ⟨v366, rfl, ho0, hb⟩; refine ⟨_, rfl, ?_⟩; have HO367 := Aside0.mk (Kd.R_lower (Kd.R_new' (Kd.R_new' ho0 (Kd.R_lt (U HO361.out))) (Kd.R_lt (U HO363.out))) (below_size BU)); replace HO361 := Aside0.mk (Kd.R_elder' (U HO361.out) (Kd.R_base ho0) hb); replace HO363 := Aside0.mk (Kd.R_elder' (U HO363.out) (Kd.R_base ho0) hb); replace HB := BS hb; (try clear hb); (try clear ho0)))
    replace HO361 := Aside0.mk (Kd.R_drew HO361.out); replace HO363 := Aside0.mk (Kd.R_drew HO363.out); replace HO367 := Aside0.mk (Kd.R_drew HO367.out); replace HB := Aside0.mk (below_drew1 HB.out); obtain ⟨Ao16, co16, eo16⟩ := Kd.R_slice HO363.out
    (first | subst eo16 | (injection eo16 with f1_ f2_ f3_; have f4_ := f1_.symm; have f5_ := f3_.symm; clear f1_ f2_ f3_; subst f4_; subst f5_))
    have p368 : 0 ≤ (0 : Int) := (by omega); have q368 : 0 < (t359.length : Int) := oD; obtain ⟨ad368, e368, hx368_0⟩ := Kd.at_int (Kd.R_reads' HO363.out).2.2 0 p368 q368; cases e368; have qi368 : (0 < t359.length) = True := eq_true (by omega)
    (try rw [show ((0 : Int)).toNat = 0 from rfl] at hx368_0)
    (try rw [Addr.add_zero'] at hx368_0)
    replace p368 := eq_true p368; replace q368 := eq_true q368; obtain ⟨Ao17, co17, eo17⟩ := Kd.R_slice HO367.out
    (first | subst eo17 | (injection eo17 with f1_ f2_ f3_; have f4_ := f1_.symm; have f5_ := f3_.symm; clear f1_ f2_ f3_; subst f4_; subst f5_))
    have p369 : 0 ≤ (0 : Int) := (by omega); have q369 : 0 < (t364.length : Int) := oD; obtain ⟨ad369, e369, hx369_0⟩ := Kd.at_int (Kd.R_reads' HO367.out).2.2 0 p369 q369; cases e369; have qi369 : (0 < t364.length) = True := eq_true (by omega)
    (try rw [show ((0 : Int)).toNat = 0 from rfl] at hx369_0)
    (try rw [Addr.add_zero'] at hx369_0)
    replace p369 := eq_true p369; replace q369 := eq_true q369; have p370 : 0 ≤ (1 : Int) := (by omega); have q370 : 1 < (t359.length : Int) := oD; obtain ⟨ad370, e370, hx370_0⟩ := Kd.at_int (Kd.R_reads' HO363.out).2.2 1 p370 q370; obtain rfl : ad368 = ad370 := (by injection e370)
    (try simp only [show (1 : Int).toNat = 1 from rfl, Nat.reduceMul, Nat.reduceEqDiff, Go.Addr.add, ↓reduceIte] at hx370_0)
    have qi370 : (1 < t359.length) = True := eq_true (by omega)
    (try rw [show ((1 : Int)).toNat = 1 from rfl] at hx370_0)
    replace p370 := eq_true p370; replace q370 := eq_true q370; have p371 : 0 ≤ (1 : Int) := (by omega); have q371 : 1 < (t364.length : Int) := oD; obtain ⟨ad371, e371, hx371_0⟩ := Kd.at_int (Kd.R_reads' HO367.out).2.2 1 p371 q371; obtain rfl : ad369 = ad371 := (by injection e371)
    (try simp only [show (1 : Int).toNat = 1 from rfl, Nat.reduceMul, Nat.reduceEqDiff, Go.Addr.add, ↓reduceIte] at hx371_0)
    have qi371 : (1 < t364.length) = True := eq_true (by omega)
    (try rw [show ((1 : Int)).toNat = 1 from rfl] at hx371_0)
    replace p371 := eq_true p371; replace q371 := eq_true q371; have p372 : 0 ≤ (2 : Int) := (by omega); have q372 : 2 < (t359.length : Int) := oD; obtain ⟨ad372, e372, hx372_0⟩ := Kd.at_int (Kd.R_reads' HO363.out).2.2 2 p372 q372; obtain rfl : ad368 = ad372 := (by injection e372)
    (try simp only [show (2 : Int).toNat = 2 from rfl, Nat.reduceMul, Nat.reduceEqDiff, Go.Addr.add, ↓reduceIte] at hx372_0)
    have qi372 : (2 < t359.length) = True := eq_true (by omega)
    (try rw [show ((2 : Int)).toNat = 2 from rfl] at hx372_0)
    replace p372 := eq_true p372; replace q372 := eq_true q372; have p373 : 0 ≤ (2 : Int) := (by omega); have q373 : 2 < (t364.length : Int) := oD; obtain ⟨ad373, e373, hx373_0⟩ := Kd.at_int (Kd.R_reads' HO367.out).2.2 2 p373 q373; obtain rfl : ad369 = ad373 := (by injection e373)
    (try simp only [show (2 : Int).toNat = 2 from rfl, Nat.reduceMul, Nat.reduceEqDiff, Go.Addr.add, ↓reduceIte] at hx373_0)
    have qi373 : (2 < t364.length) = True := eq_true (by omega)
    (try rw [show ((2 : Int)).toNat = 2 from rfl] at hx373_0)
    replace p373 := eq_true p373; replace q373 := eq_true q373
    refine start_ (n := 25) (S := fun w' => w'.cell? ad368 = some (.int .i64 (rd t359 0)) ∧ w'.cell? ad369 = some (.int .i64 (rd t364 0)) ∧ w'.cell? ⟨ad368.block, ad368.off + 1, none⟩ = some (.int .i64 (rd t359 1)) ∧ w'.cell? ⟨ad369.block, ad369.off + 1, none⟩ = some (.int .i64 (rd t364 1)) ∧ w'.cell? ⟨ad368.block, ad368.off + 2, none⟩ = some (.int .i64 (rd t359 2)) ∧ w'.cell? ⟨ad369.block, ad369.off + 2, none⟩ = some (.int .i64 (rd t364 2))) (ds := []) #[false, false, false, false, false, false, false, false, false, false, false, false, false, false, false, false, false, false, false, false, false, false, false, false, false] (by kernel_rfl) rfl rfl ⟨hx368_0, hx369_0, hx370_0, hx371_0, hx372_0, hx373_0⟩ (fun hHeld => ?_); refine with_tabW spec_l5Three.tab5 spec_l5Three.bits5 (fun HT_ HW_ => ?_)
    generalize w14.drew = w15 at HO361 HO363 HO367 HB hx368_0 hx369_0 hx370_0 hx371_0 hx372_0 hx373_0 hHeld ⊢
    refine pure_ (i := 0) (N := some 21) (v := ?_) (a' := ?_) #[true, false, false, false, false, false, false, false, false, false, false, false, false, false, false, false, false, false, false, false, false, false, false, false, false] rfl rfl (any_of HT_.out (by kernel_rfl)) (fun _ _ _ h => h) (Or.inl ⟨by rfl, ?_⟩) ?_ ?_
    rotate_left
    · intro w'
      go_simp
      with_reducible rfl
    rotate_left
    · simp only [Act.put, List.setIfInBounds_toArray, List.set_cons_zero, List.set_cons_succ, i64_w, i32_w]
      rfl
    refine pure_ (i := 1) (N := some 22) (v := ?_) (a' := ?_) #[true, true, false, false, false, false, false, false, false, false, false, false, false, false, false, false, false, false, false, false, false, false, false, false, false] rfl rfl (any_of HT_.out (by kernel_rfl)) (fun _ _ _ h => h) (Or.inl ⟨by rfl, ?_⟩) ?_ ?_
    rotate_left
    · intro w'
      go_simp
      with_reducible rfl
    rotate_left
    · simp only [Act.put, List.setIfInBounds_toArray, List.set_cons_zero, List.set_cons_succ, i64_w, i32_w]
      rfl
    refine pure_ (i := 3) (N := some 24) (v := ?_) (a' := ?_) #[true, true, false, true, false, false, false, false, false, false, false, false, false, false, false, false, false, false, false, false, false, false, false, false, false] rfl rfl (any_of HT_.out (by kernel_rfl)) (fun _ _ _ h => h) (Or.inl ⟨by rfl, ?_⟩) ?_ ?_
    rotate_left
    · intro w'
      go_simp
      with_reducible rfl
    rotate_left
    · simp only [Act.put, List.setIfInBounds_toArray, List.set_cons_zero, List.set_cons_succ, i64_w, i32_w]
      rfl
    refine pure_ (i := 4) (N := some 25) (v := ?_) (a' := ?_) #[true, true, false, true, true, false, false, false, false, false, false, false, false, false, false, false, false, false, false, false, false, false, false, false, false] rfl rfl (any_of HT_.out (by kernel_rfl)) (fun _ _ _ h => h) (Or.inl ⟨by rfl, ?_⟩) ?_ ?_
    rotate_left
    · intro w'
      go_simp
      with_reducible rfl
    rotate_left
    · simp only [Act.put, List.setIfInBounds_toArray, List.set_cons_zero, List.set_cons_succ, i64_w, i32_w]
      rfl
    refine pure_ (i := 7) (N := some 28) (v := ?_) (a' := ?_) #[true, true, false, true, true, false, false, true, false, false, false, false, false, false, false, false, false, false, false, false, false, false, false, false, false] rfl rfl (any_of HT_.out (by kernel_rfl)) (fun _ _ _ h => h) (Or.inl ⟨by rfl, ?_⟩) ?_ ?_
    rotate_left
    · intro w'
      go_simp
      with_reducible rfl
    rotate_left
    · simp only [Act.put, List.setIfInBounds_toArray, List.set_cons_zero, List.set_cons_succ, i64_w, i32_w]
      rfl
    refine pure_ (i := 8) (N := some 29) (v := ?_) (a' := ?_) #[true, true, false, true, true, false, false, true, true, false, false, false, false, false, false, false, false, false, false, false, false, false, false, false, false] rfl rfl (any_of HT_.out (by kernel_rfl)) (fun _ _ _ h => h) (Or.inl ⟨by rfl, ?_⟩) ?_ ?_
    rotate_left
    · intro w'
      go_simp
      with_reducible rfl
    rotate_left
    · simp only [Act.put, List.setIfInBounds_toArray, List.set_cons_zero, List.set_cons_succ, i64_w, i32_w]
      rfl
    refine pure_ (i := 10) (N := some 31) (v := ?_) (a' := ?_) #[true, true, false, true, true, false, false, true, true, false, true, false, false, false, false, false, false, false, false, false, false, false, false, false, false] rfl rfl (any_of HT_.out (by kernel_rfl)) (fun _ _ _ h => h) (Or.inl ⟨by rfl, ?_⟩) ?_ ?_
    rotate_left
    · intro w'
      go_simp
      with_reducible rfl
    rotate_left
    · simp only [Act.put, List.setIfInBounds_toArray, List.set_cons_zero, List.set_cons_succ, i64_w, i32_w]
      rfl
    refine pure_ (i := 11) (N := some 32) (v := ?_) (a' := ?_) #[true, true, false, true, true, false, false, true, true, false, true, true, false, false, false, false, false, false, false, false, false, false, false, false, false] rfl rfl (any_of HT_.out (by kernel_rfl)) (fun _ _ _ h => h) (Or.inl ⟨by rfl, ?_⟩) ?_ ?_
    rotate_left
    · intro w'
      go_simp
      with_reducible rfl
    rotate_left
    · simp only [Act.put, List.setIfInBounds_toArray, List.set_cons_zero, List.set_cons_succ, i64_w, i32_w]
      rfl
    refine pure_ (i := 14) (N := some 35) (v := ?_) (a' := ?_) #[true, true, false, true, true, false, false, true, true, false, true, true, false, false, true, false, false, false, false, false, false, false, false, false, false] rfl rfl (any_of HT_.out (by kernel_rfl)) (fun _ _ _ h => h) (Or.inl ⟨by rfl, ?_⟩) ?_ ?_
    rotate_left
    · intro w'
      go_simp
      with_reducible rfl
    rotate_left
    · simp only [Act.put, List.setIfInBounds_toArray, List.set_cons_zero, List.set_cons_succ, i64_w, i32_w]
      rfl
    refine pure_ (i := 15) (N := some 36) (v := ?_) (a' := ?_) #[true, true, false, true, true, false, false, true, true, false, true, true, false, false, true, true, false, false, false, false, false, false, false, false, false] rfl rfl (any_of HT_.out (by kernel_rfl)) (fun _ _ _ h => h) (Or.inl ⟨by rfl, ?_⟩) ?_ ?_
    rotate_left
    · intro w'
      go_simp
      with_reducible rfl
    rotate_left
    · simp only [Act.put, List.setIfInBounds_toArray, List.set_cons_zero, List.set_cons_succ, i64_w, i32_w]
      rfl
    refine pure_ (i := 17) (N := some 38) (v := ?_) (a' := ?_) #[true, true, false, true, true, false, false, true, true, false, true, true, false, false, true, true, false, true, false, false, false, false, false, false, false] rfl rfl (any_of HT_.out (by kernel_rfl)) (fun _ _ _ h => h) (Or.inl ⟨by rfl, ?_⟩) ?_ ?_
    rotate_left
    · intro w'
      go_simp
      with_reducible rfl
    rotate_left
    · simp only [Act.put, List.setIfInBounds_toArray, List.set_cons_zero, List.set_cons_succ, i64_w, i32_w]
      rfl
    refine pure_ (i := 18) (N := some 39) (v := ?_) (a' := ?_) #[true, true, false, true, true, false, false, true, true, false, true, true, false, false, true, true, false, true, true, false, false, false, false, false, false] rfl rfl (any_of HT_.out (by kernel_rfl)) (fun _ _ _ h => h) (Or.inl ⟨by rfl, ?_⟩) ?_ ?_
    rotate_left
    · intro w'
      go_simp
      with_reducible rfl
    rotate_left
    · simp only [Act.put, List.setIfInBounds_toArray, List.set_cons_zero, List.set_cons_succ, i64_w, i32_w]
      rfl
    refine take_ (i := 2) (N := some 23) (v := ?_) (a' := ?_) #[true, true, true, true, true, false, false, true, true, false, true, true, false, false, true, true, false, true, true, false, false, false, false, false, false] rfl rfl (take_ofW HT_.out HW_.out (by kernel_rfl)) (fun _ _ _ h => h) (Or.inl ⟨by rfl, ?_⟩) hHeld ?_ ?_
    rotate_left
    · rintro w' ⟨s0, s1, s2, s3, s4, s5⟩
      go_simp
      with_reducible rfl
    rotate_left
    · simp only [Act.put, List.setIfInBounds_toArray, List.set_cons_zero, List.set_cons_succ, i64_w, i32_w]
      rfl
    refine take_ (i := 5) (N := some 26) (v := ?_) (a' := ?_) #[true, true, true, true, true, true, false, true, true, false, true, true, false, false, true, true, false, true, true, false, false, false, false, false, false] rfl rfl (take_ofW HT_.out HW_.out (by kernel_rfl)) (fun _ _ _ h => h) (Or.inl ⟨by rfl, ?_⟩) hHeld ?_ ?_
    rotate_left
    · rintro w' ⟨s0, s1, s2, s3, s4, s5⟩
      go_simp
      with_reducible rfl
    rotate_left
    · simp only [Act.put, List.setIfInBounds_toArray, List.set_cons_zero, List.set_cons_succ, i64_w, i32_w]
      rfl
    refine pure_ (i := 6) (N := some 27) (v := ?_) (a' := ?_) #[true, true, true, true, true, true, true, true, true, false, true, true, false, false, true, true, false, true, true, false, false, false, false, false, false] rfl rfl (any_of HT_.out (by kernel_rfl)) (fun _ _ _ h => h) (Or.inl ⟨by rfl, ?_⟩) ?_ ?_
    rotate_left
    · intro w'
      go_simp
      with_reducible rfl
    rotate_left
    · simp only [Act.put, List.setIfInBounds_toArray, List.set_cons_zero, List.set_cons_succ, i64_w, i32_w]
      rfl
    refine take_ (i := 9) (N := some 30) (v := ?_) (a' := ?_) #[true, true, true, true, true, true, true, true, true, true, true, true, false, false, true, true, false, true, true, false, false, false, false, false, false] rfl rfl (take_ofW HT_.out HW_.out (by kernel_rfl)) (fun _ _ _ h => h) (Or.inl ⟨by rfl, ?_⟩) hHeld ?_ ?_
    rotate_left
    · rintro w' ⟨s0, s1, s2, s3, s4, s5⟩
      go_simp
      with_reducible rfl
    rotate_left
    · simp only [Act.put, List.setIfInBounds_toArray, List.set_cons_zero, List.set_cons_succ, i64_w, i32_w]
      rfl
    refine take_ (i := 12) (N := some 33) (v := ?_) (a' := ?_) #[true, true, true, true, true, true, true, true, true, true, true, true, true, false, true, true, false, true, true, false, false, false, false, false, false] rfl rfl (take_ofW HT_.out HW_.out (by kernel_rfl)) (fun _ _ _ h => h) (Or.inl ⟨by rfl, ?_⟩) hHeld ?_ ?_
    rotate_left
    · rintro w' ⟨s0, s1, s2, s3, s4, s5⟩
      go_simp
      with_reducible rfl
    rotate_left
    · simp only [Act.put, List.setIfInBounds_toArray, List.set_cons_zero, List.set_cons_succ, i64_w, i32_w]
      rfl
    refine pure_ (i := 13) (N := some 34) (v := ?_) (a' := ?_) #[true, true, true, true, true, true, true, true, true, true, true, true, true, true, true, true, false, true, true, false, false, false, false, false, false] rfl rfl (any_of HT_.out (by kernel_rfl)) (fun _ _ _ h => h) (Or.inl ⟨by rfl, ?_⟩) ?_ ?_
    rotate_left
    · intro w'
      go_simp
      with_reducible rfl
    rotate_left
    · simp only [Act.put, List.setIfInBounds_toArray, List.set_cons_zero, List.set_cons_succ, i64_w, i32_w]
      rfl
    refine take_ (i := 16) (N := some 37) (v := ?_) (a' := ?_) #[true, true, true, true, true, true, true, true, true, true, true, true, true, true, true, true, true, true, true, false, false, false, false, false, false] rfl rfl (take_ofW HT_.out HW_.out (by kernel_rfl)) (fun _ _ _ h => h) (Or.inl ⟨by rfl, ?_⟩) hHeld ?_ ?_
    rotate_left
    · rintro w' ⟨s0, s1, s2, s3, s4, s5⟩
      go_simp
      with_reducible rfl
    rotate_left
    · simp only [Act.put, List.setIfInBounds_toArray, List.set_cons_zero, List.set_cons_succ, i64_w, i32_w]
      rfl
    refine take_ (i := 19) (N := some 40) (v := ?_) (a' := ?_) #[true, true, true, true, true, true, true, true, true, true, true, true, true, true, true, true, true, true, true, true, false, false, false, false, false] rfl rfl (take_ofW HT_.out HW_.out (by kernel_rfl)) (fun _ _ _ h => h) (Or.inl ⟨by rfl, ?_⟩) hHeld ?_ ?_
    rotate_left
    · rintro w' ⟨s0, s1, s2, s3, s4, s5⟩
      go_simp
      with_reducible rfl
    rotate_left
    · simp only [Act.put, List.setIfInBounds_toArray, List.set_cons_zero, List.set_cons_succ, i64_w, i32_w]
      rfl
    refine pure_ (i := 20) (N := some 41) (v := ?_) (a' := ?_) #[true, true, true, true, true, true, true, true, true, true, true, true, true, true, true, true, true, true, true, true, true, false, false, false, false] rfl rfl (any_of HT_.out (by kernel_rfl)) (fun _ _ _ h => h) (Or.inl ⟨by rfl, ?_⟩) ?_ ?_
    rotate_left
    · intro w'
      go_simp
      with_reducible rfl
    rotate_left
    · simp only [Act.put, List.setIfInBounds_toArray, List.set_cons_zero, List.set_cons_succ, i64_w, i32_w]
      rfl
    refine one_ (i := 21) (N := some 42) #[true, true, true, true, true, true, true, true, true, true, true, true, true, true, true, true, true, true, true, true, true, true, false, false, false] rfl rfl (one_of HT_.out (by kernel_rfl)) (by decide) (fun K hK => ?_)
    refine Kd.R_lit_step (Kd.int .i64) _ 3 ?hg (N := 42) ?hd (xs := ([wrap64 ((rd t359 0) * (rd t364 0)), wrap64 ((rd t359 1) * (rd t364 1)), wrap64 ((rd t359 2) * (rd t364 2))] : List Int)) (inner := [.int .i64 (wrap64 ((rd t359 0) * (rd t364 0))), .int .i64 (wrap64 ((rd t359 1) * (rd t364 1))), .int .i64 (wrap64 ((rd t359 2) * (rd t364 2)))]) (ok := fun _ => True) (okp := fun _ => True) ?hr ?hp (fun _ hk => hk) trivial (Below.refl _ _) (Nat.le_refl _) (by simp) ?_; (case hd => rfl); (case hg => rfl); (case hr => first | (go_simp; done) | (go_simp; rfl)); (case hp => exact (Reps.one (show Kd.M (Kd.int .i64) _ _ _ (wrap64 ((rd t359 0) * (rd t364 0))) [.int .i64 (wrap64 ((rd t359 0) * (rd t364 0)))] from rfl) (Reps.one (show Kd.M (Kd.int .i64) _ _ _ (wrap64 ((rd t359 1) * (rd t364 1))) [.int .i64 (wrap64 ((rd t359 1) * (rd t364 1)))] from rfl) (Reps.one (show Kd.M (Kd.int .i64) _ _ _ (wrap64 ((rd t359 2) * (rd t364 2))) [.int .i64 (wrap64 ((rd t359 2) * (rd t364 2)))] from rfl) (Reps.none _ _)))))
    intro v375 w18 ho19 hb hg_ hnew_; have HS0_ := (hb.cell (World.block_lt_of_cell? _ _ (hHeld.1))).trans (hHeld.1); have HS1_ := (hb.cell (World.block_lt_of_cell? _ _ (hHeld.2.1))).trans (hHeld.2.1); have HS2_ := (hb.cell (World.block_lt_of_cell? _ _ (hHeld.2.2.1))).trans (hHeld.2.2.1); have HS3_ := (hb.cell (World.block_lt_of_cell? _ _ (hHeld.2.2.2.1))).trans (hHeld.2.2.2.1); have HS4_ := (hb.cell (World.block_lt_of_cell? _ _ (hHeld.2.2.2.2.1))).trans (hHeld.2.2.2.2.1); have HS5_ := (hb.cell (World.block_lt_of_cell? _ _ (hHeld.2.2.2.2.2))).trans (hHeld.2.2.2.2.2); clear hg_ hnew_
    (first | rw [← Ny374.out] at ho19 | (simp only [Int.reduceToNat] at ho19; rw [← Ny374.out] at ho19))
    have HO376 := Aside0.mk (Kd.R_lower (Kd.R_new' (Kd.R_new' (Kd.R_new' ho19 (Kd.R_lt (U HO361.out))) (Kd.R_lt (U HO363.out))) (Kd.R_lt (U HO367.out))) (below_size BU)); replace HO361 := Aside0.mk (Kd.R_elder' (U HO361.out) (Kd.R_base ho19) hb); replace HO363 := Aside0.mk (Kd.R_elder' (U HO363.out) (Kd.R_base ho19) hb); replace HO367 := Aside0.mk (Kd.R_elder' (U HO367.out) (Kd.R_base ho19) hb); replace HB := BS hb; clear hb ho19; obtain ⟨Ao20, co20, eo20⟩ := Kd.R_slice HO376.out
    (first | subst eo20 | (injection eo20 with f1_ f2_ f3_; have f4_ := f1_.symm; have f5_ := f3_.symm; clear f1_ f2_ f3_; subst f4_; subst f5_))
    refine hK.out _ _ ⟨HS0_, HS1_, HS2_, HS3_, HS4_, HS5_⟩ (fun hHeld => ?_)
    clear hK K
    refine norm_ (a' := ?_) ?_ ?_
    rotate_left
    · show Act.put _ (some 42) _ = _
      simp only [Act.put, List.setIfInBounds_toArray, List.set_cons_zero, List.set_cons_succ, i64_w, i32_w]
      rfl
    refine one_ (i := 22) (N := some 43) #[true, true, true, true, true, true, true, true, true, true, true, true, true, true, true, true, true, true, true, true, true, true, true, false, false] rfl rfl (one_of HT_.out (by kernel_rfl)) (by decide) (fun K hK => ?_)
    refine goes_ Try.func48 (by kernel_rfl) rfl #[.slice Ao20 y374.length co20] (by rfl) rfl rfl (by (try simp only [List.map_toArray, List.map_cons, List.map_nil]); first | done | rfl | (simp only [List.length_drop, List.length_take]; rfl)) ?_
    with_reducible refine (spec_l5Plain.calls k _ _ y374 t377 _ ?side1 ?side2 A11.out).mono ?_
    (case side1 => exact U ((Kd.R_reads' HO376.out).2.2))
    (case side2 => exact (Kd.R_reads' HO376.out).2.1)
    rintro e w21 ⟨v378, rfl, ho0, hb⟩; have HS0_ := (hb.cell (World.block_lt_of_cell? _ _ (hHeld.1))).trans (hHeld.1); have HS1_ := (hb.cell (World.block_lt_of_cell? _ _ (hHeld.2.1))).trans (hHeld.2.1); have HS2_ := (hb.cell (World.block_lt_of_cell? _ _ (hHeld.2.2.1))).trans (hHeld.2.2.1); have HS3_ := (hb.cell (World.block_lt_of_cell? _ _ (hHeld.2.2.2.1))).trans (hHeld.2.2.2.1); have HS4_ := (hb.cell (World.block_lt_of_cell? _ _ (hHeld.2.2.2.2.1))).trans (hHeld.2.2.2.2.1); have HS5_ := (hb.cell (World.block_lt_of_cell? _ _ (hHeld.2.2.2.2.2))).trans (hHeld.2.2.2.2.2)
    refine ⟨_, rfl, ?_⟩
    have HO379 := Aside0.mk (Kd.R_lower (Kd.R_new' (Kd.R_new' (Kd.R_new' (Kd.R_new' ho0 (Kd.R_lt (U HO361.out))) (Kd.R_lt (U HO363.out))) (Kd.R_lt (U HO367.out))) (Kd.R_lt (U HO376.out))) (below_size BU)); replace HO361 := Aside0.mk (Kd.R_elder' (U HO361.out) (Kd.R_base ho0) hb); replace HO363 := Aside0.mk (Kd.R_elder' (U HO363.out) (Kd.R_base ho0) hb); replace HO367 := Aside0.mk (Kd.R_elder' (U HO367.out) (Kd.R_base ho0) hb); replace HO376 := Aside0.mk (Kd.R_elder' (U HO376.out) (Kd.R_base ho0) hb); replace HB := BS hb; (try clear hb); (try clear hb2); (try clear hk); (try clear hi); (try clear ho0)
    refine hK.out _ _ ⟨HS0_, HS1_, HS2_, HS3_, HS4_, HS5_⟩ (fun hHeld => ?_)
    clear hK K
    refine norm_ (a' := ?_) ?_ ?_
    rotate_left
    · show Act.put _ (some 43) _ = _
      simp only [Act.put, List.setIfInBounds_toArray, List.set_cons_zero, List.set_cons_succ, i64_w, i32_w]
      rfl
    refine pure_ (i := 23) (N := some 2) (v := ?_) (a' := ?_) #[true, true, true, true, true, true, true, true, true, true, true, true, true, true, true, true, true, true, true, true, true, true, true, true, false] rfl rfl (any_of HT_.out (by kernel_rfl)) (fun _ _ _ h => h) (Or.inl ⟨by rfl, ?_⟩) ?_ ?_
    rotate_left
    · intro w'
      go_simp
      with_reducible rfl
    rotate_left
    · simp only [Act.put, List.setIfInBounds_toArray, List.set_cons_zero, List.set_cons_succ, i64_w, i32_w]
      rfl
    refine pure_ (i := 24) (N := some 3) (v := ?_) (a' := ?_) #[true, true, true, true, true, true, true, true, true, true, true, true, true, true, true, true, true, true, true, true, true, true, true, true, true] rfl rfl (any_of HT_.out (by kernel_rfl)) (fun _ _ _ h => h) (Or.inl ⟨by rfl, ?_⟩) ?_ ?_
    rotate_left
    · intro w'
      go_simp
      with_reducible rfl
    rotate_left
    · simp only [Act.put, List.setIfInBounds_toArray, List.set_cons_zero, List.set_cons_succ, i64_w, i32_w]
      rfl
    refine done_ (done_of HT_.out (by kernel_rfl)) ?_
    try go_wp2
    go_ret2
    exact ⟨_, eR, Kd.RM HO379.out (fun _ hk => trivial), BU⟩
  replace c4 := Bool.eq_false_iff.mpr c4; subst c4; replace H := ifF H; obtain ⟨y380, hy380⟩ : ∃ y_ : List Int, y_ = (([] : List Int)) := ⟨_, rfl⟩; replace H : (some (y380, false)) = some (r1, r2) := rH hy380 H; have Ny380 := Aside0.mk hy380; clear hy380; simp only [Option.some.injEq, Prod.mk.injEq] at H; obtain ⟨rfl, rfl⟩ := H; go_enter Try.func68, Try.ntmps68
  go_wp2_with (first | ((with_reducible refine gate_callee (f := 70) rfl ?_); refine goesK (some 10) Try.func70 #[.slice A0 l0.length c0] ?_; (with_reducible refine (spec_l5Normal.calls k _ _ l0 t358 t359 _ ?side1 ?side2 A2.out).mono ?_); (case side1 => exact U HR0.out); (case side2 => exact HC0.out); rintro e w22 ⟨v360, v362, rfl, ho0, ho1, hb⟩; refine ⟨_, rfl, ?_⟩; have HO361 := Aside0.mk (Kd.R_lower ho0 (below_size BU)); have HO363 := Aside0.mk (Kd.R_lower ho1 (below_size BU)); replace HB := BS hb; (try clear hb); (try clear ho0); (try clear ho1); obtain ⟨Ao23, co23, eo23⟩ := Kd.R_slice HO361.out; subst eo23) | ((with_reducible refine gate_callee (f := 71) rfl ?_); refine goesK (some 15) Try.func71 #[.slice Ao23 t358.length co23] ?_; (with_reducible refine (spec_l5Search.calls k _ _ t358 t364 false _ ?side1 ?side2 A3.out).mono ?_); (case side1 => exact U ((Kd.R_reads' HO361.out).2.2)); (case side2 => exact (Kd.R_reads' HO361.out).2.1); rintro e w24 ⟨v366, rfl, ho0, hb⟩; refine ⟨_, rfl, ?_⟩; have HO367 := Aside0.mk (Kd.R_lower (Kd.R_new' (Kd.R_new' ho0 (Kd.R_lt (U HO361.out))) (Kd.R_lt (U HO363.out))) (below_size BU)); replace HO361 := Aside0.mk (Kd.R_elder' (U HO361.out) (Kd.R_base ho0) hb); replace HO363 := Aside0.mk (Kd.R_elder' (U HO363.out) (Kd.R_base ho0) hb); replace HB := BS hb; (try clear hb); (try clear ho0)) | ((with_reducible refine gate_dst (N := 20) rfl ?_); refine Kd.R_lit (Kd.int .i64) _ 3 ?hg (N := 20) ?hd (xs := ([] : List Int)) (inner := []) (ok := fun _ => True) (okp := fun _ => True) ?hr ?hp (fun _ hk => hk) trivial (Below.refl _ _) (Nat.le_refl _) (by simp) ?_; (case hd => rfl); (case hg => rfl); (case hr => first | (go_simp; done) | (go_simp; rfl)); (case hp => exact (Reps.none _ _)); intro v381 w25 ho26 hb hg_ hnew_; clear hg_ hnew_; (first | rw [← Ny380.out] at ho26 | (simp only [Int.reduceToNat] at ho26; rw [← Ny380.out] at ho26)); have HO382 := Aside0.mk (Kd.R_lower (Kd.R_new' (Kd.R_new' (Kd.R_new' ho26 (Kd.R_lt (U HO361.out))) (Kd.R_lt (U HO363.out))) (Kd.R_lt (U HO367.out))) (below_size BU)); replace HO361 := Aside0.mk (Kd.R_elder' (U HO361.out) (Kd.R_base ho26) hb); replace HO363 := Aside0.mk (Kd.R_elder' (U HO363.out) (Kd.R_base ho26) hb); replace HO367 := Aside0.mk (Kd.R_elder' (U HO367.out) (Kd.R_base ho26) hb); replace HB := BS hb; clear hb ho26))
  go_ret2
  exact ⟨_, eR, Kd.RM HO382.out (fun _ hk => trivial), BU⟩

end Go.Proofs.Ytpaohkhmhdhibaa.PFnAt
