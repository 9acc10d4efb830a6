-- Written by a program of this session (wip/print2.py): the functions that the law reaches, plain, and the walks.
import Derived.Test.YtpaohkhmhdhibaaPFnConicManyx0
import Derived.Test.YtpaohkhmhdhibaaPFnConicManyx7
import Derived.Test.YtpaohkhmhdhibaaPFnConicManyx8
import Derived.Test.YtpaohkhmhdhibaaPFnConicManyx9
namespace Go.Proofs.Ytpaohkhmhdhibaa.PFnConicMany
open Go.RowKit Go.Proofs.YtpaohkhmhdhibaaW.PrintWords Go.Proofs.YtpaohkhmhdhibaaW.PrintLast Go.Proofs.YtpaohkhmhdhibaaW.PrintMore
attribute [local go_sem] max2_int min2_int max_two min_two max_three min_three max_four min_four   -- for this text's walks alone
set_option linter.unusedVariables false
set_option linter.unusedSimpArgs false

/-! ### spec_l5Three: function 68 -/
def spec_l5Three.f (k : Nat) (l0 : List Int) : Option (List Int × Bool) := (spec_l5Normal.f k l0).bind fun bt328 => ((spec_l5Search.f k bt328.1).bind fun bt334 => (if bt334.2 = true then (if 0 < (bt328.2.length : Int) then (if 0 < (bt334.1.length : Int) then (if 1 < (bt328.2.length : Int) then (if 1 < (bt334.1.length : Int) then (if 2 < (bt328.2.length : Int) then (if 2 < (bt334.1.length : Int) then ((spec_l5Plain.f k (([wrap64 ((rd bt328.2 0) * (rd bt334.1 0)), wrap64 ((rd bt328.2 1) * (rd bt334.1 1)), wrap64 ((rd bt328.2 2) * (rd bt334.1 2))] : List Int))).bind fun t347 => (some (t347, true))) else (none)) else (none)) else (none)) else (none)) else (none)) else (none)) else (some ((([] : List Int)), false))))
theorem spec_l5Three.mono : ∀ a0 k, LeO (spec_l5Three.f k a0) (spec_l5Three.f (k + 1) a0) := by
  intro a0 k
  unfold spec_l5Three.f
  repeat' first
      | (with_reducible exact spec_l5Normal.mono _ _)
      | (with_reducible exact spec_l5Plain.mono _ _)
      | (with_reducible exact spec_l5Search.mono _ _)
      | (with_reducible exact LeO.refl _)
      | (with_reducible exact LeO.none _)
      | (with_reducible refine LeO.ite ?_ ?_)
      | (with_reducible refine LeO.bind ?_ (fun _ => ?_))
      | exact spec_l5Normal.mono _ _
      | exact spec_l5Plain.mono _ _
      | exact spec_l5Search.mono _ _
      | exact LeO.none _
      | refine LeO.ite ?_ ?_
      | refine LeO.bind ?_ (fun _ => ?_)
def spec_l5Three.T5 : Bool × List (List Nat × List Nat) := (true, [([], []), ([0], [0]), ([1], [1]), ([], []), ([3], [3]), ([4], [4]), ([2, 5], [2, 5]), ([], []), ([7], [7]), ([8], [8]), ([], []), ([10], [10]), ([11], [11]), ([9, 12], [9, 12]), ([], []), ([14], [14]), ([15], [15]), ([], []), ([17], [17]), ([18], [18]), ([16, 19], [16, 19]), ([6, 13, 20], [6, 13, 20]), ([21], [21]), ([22, 22, 0, 1, 2, 3, 4, 5, 6, 7, 8, 9, 10, 11, 12, 13, 14, 15, 16, 17, 18, 19, 20, 21, 22], [22]), ([23, 0, 1, 2, 3, 4, 5, 6, 7, 8, 9, 10, 11, 12, 13, 14, 15, 16, 17, 18, 19, 20, 21, 22, 23], [])])
def spec_l5Three.B5 : List Nat := [0, 1, 3, 0, 8, 24, 63, 0, 128, 384, 0, 1024, 3072, 8064, 0, 16384, 49152, 0, 131072, 393216, 1032192, 2097151, 4194303, 8388607, 16777215]
theorem spec_l5Three.tab5 : rtab .any (opsOf Try.f68 5) = spec_l5Three.T5 := by kernel_rfl
theorem spec_l5Three.bits5 : waitsOk spec_l5Three.T5.2 spec_l5Three.B5 = true := by kernel_rfl
set_option maxHeartbeats 8000000 in
set_option maxRecDepth 100000 in
theorem spec_l5Three.calls (k : Nat) (A0 : Option Addr) (c0 : Nat) (l0 : List Int) (r1 : List Int) (r2 : Bool) (w : World) (hr0 : Kd.C (Kd.int .i64) w A0 l0.length l0) (hc0 : l0.length ≤ c0) (h : spec_l5Three.f k l0 = some (r1, r2)) :
    Calls Try.prog 68 #[.slice A0 l0.length c0] w fun e w' => ∃ v0_ : Value, e = .returned (.tuple #[v0_, .bool r2]) ∧ Kd.R (Kd.int .i64) 3 w' w.heap.size (fun _ => True) v0_ r1 ∧ Below w.heap.size w w' := by
  have HR0 := Aside0.mk hr0; have HC0 := Aside0.mk hc0; clear hr0 hc0; have HB := Aside0.mk (Below.refl w.heap.size w); unfold spec_l5Three.f at h; have H := h; clear h; obtain ⟨⟨t328, t329⟩, A2, H⟩ := bnd H
  replace H : ((spec_l5Search.f k t328).bind fun bt334 => (if bt334.2 = true then (if 0 < (t329.length : Int) then (if 0 < (bt334.1.length : Int) then (if 1 < (t329.length : Int) then (if 1 < (bt334.1.length : Int) then (if 2 < (t329.length : Int) then (if 2 < (bt334.1.length : Int) then ((spec_l5Plain.f k (([wrap64 ((rd t329 0) * (rd bt334.1 0)), wrap64 ((rd t329 1) * (rd bt334.1 1)), wrap64 ((rd t329 2) * (rd bt334.1 2))] : List Int))).bind fun t347 => (some (t347, true))) else (none)) else (none)) else (none)) else (none)) else (none)) else (none)) else (some ((([] : List Int)), false)))) = some (r1, r2) := H
  obtain ⟨⟨t334, t335⟩, A3, H⟩ := bnd H
  replace H : (if t335 = true then (if 0 < (t329.length : Int) then (if 0 < (t334.length : Int) then (if 1 < (t329.length : Int) then (if 1 < (t334.length : Int) then (if 2 < (t329.length : Int) then (if 2 < (t334.length : Int) then ((spec_l5Plain.f k (([wrap64 ((rd t329 0) * (rd t334 0)), wrap64 ((rd t329 1) * (rd t334 1)), wrap64 ((rd t329 2) * (rd t334 2))] : List Int))).bind fun t347 => (some (t347, true))) else (none)) else (none)) else (none)) else (none)) else (none)) else (none)) else (some ((([] : List Int)), false))) = some (r1, r2) := H
  by_cases c4 : t335 = true
  · subst c4
    replace H := ifT H; obtain ⟨c5, H⟩ := ifN H; have c5b0 : decide (0 < (t329.length : Int)) = true := decide_eq_true c5; have c5b1 : decide (0 < t329.length) = true := decide_eq_true (by omega); clear c5; obtain ⟨c6, H⟩ := ifN H; have c6b0 : decide (0 < (t334.length : Int)) = true := decide_eq_true c6; have c6b1 : decide (0 < t334.length) = true := decide_eq_true (by omega); clear c6; obtain ⟨c7, H⟩ := ifN H; have c7b0 : decide (1 < (t329.length : Int)) = true := decide_eq_true c7; have c7b1 : decide (1 < t329.length) = true := decide_eq_true (by omega); clear c7; obtain ⟨c8, H⟩ := ifN H; have c8b0 : decide (1 < (t334.length : Int)) = true := decide_eq_true c8; have c8b1 : decide (1 < t334.length) = true := decide_eq_true (by omega); clear c8; obtain ⟨c9, H⟩ := ifN H; have c9b0 : decide (2 < (t329.length : Int)) = true := decide_eq_true c9; have c9b1 : decide (2 < t329.length) = true := decide_eq_true (by omega); clear c9; obtain ⟨c10, H⟩ := ifN H; have c10b0 : decide (2 < (t334.length : Int)) = true := decide_eq_true c10; have c10b1 : decide (2 < t334.length) = true := decide_eq_true (by omega); clear c10; obtain ⟨y344, hy344⟩ : ∃ y_ : List Int, y_ = (([wrap64 ((rd t329 0) * (rd t334 0)), wrap64 ((rd t329 1) * (rd t334 1)), wrap64 ((rd t329 2) * (rd t334 2))] : List Int)) := ⟨_, rfl⟩; replace H : ((spec_l5Plain.f k y344).bind fun t347 => (some (t347, true))) = some (r1, r2) := rH hy344 H; have Ny344 := Aside0.mk hy344; clear hy344; obtain ⟨t347, A11, H⟩ := bnd H; simp only [Option.some.injEq, Prod.mk.injEq] at H; obtain ⟨rfl, rfl⟩ := H; go_enter Try.func68, Try.ntmps68
    try go_wp2_with (first | ((with_reducible refine gate_callee (f := 70) rfl ?_); refine goesK (some 10) Try.func70 #[.slice A0 l0.length c0] ?_; (with_reducible refine (spec_l5Normal.calls k _ _ l0 t328 t329 _ ?side1 ?side2 A2.out).mono ?_); (case side1 => exact U HR0.out); (case side2 => exact HC0.out); rintro e w12 ⟨v330, v332, rfl, ho0, ho1, hb⟩; refine ⟨_, rfl, ?_⟩; have HO331 := Aside0.mk (Kd.R_lower ho0 (below_size BU)); have HO333 := Aside0.mk (Kd.R_lower ho1 (below_size BU)); replace HB := BS hb; (try clear hb); (try clear ho0); (try clear ho1); obtain ⟨Ao13, co13, eo13⟩ := Kd.R_slice HO331.out; subst eo13) | ((with_reducible refine gate_callee (f := 71) rfl ?_); refine goesK (some 15) Try.func71 #[.slice Ao13 t328.length co13] ?_; (with_reducible refine (spec_l5Search.calls k _ _ t328 t334 true _ ?side1 ?side2 A3.out).mono ?_); (case side1 => exact U ((Kd.R_reads' HO331.out).2.2)); (case side2 => exact (Kd.R_reads' HO331.out).2.1); rintro e w14 ⟨v336, rfl, ho0, hb⟩; refine ⟨_, rfl, ?_⟩; have HO337 := Aside0.mk (Kd.R_lower (Kd.R_new' (Kd.R_new' ho0 (Kd.R_lt (U HO331.out))) (Kd.R_lt (U HO333.out))) (below_size BU)); replace HO331 := Aside0.mk (Kd.R_elder' (U HO331.out) (Kd.R_base ho0) hb); replace HO333 := Aside0.mk (Kd.R_elder' (U HO333.out) (Kd.R_base ho0) hb); replace HB := BS hb; (try clear hb); (try clear ho0)))
    replace HO331 := Aside0.mk (Kd.R_drew HO331.out); replace HO333 := Aside0.mk (Kd.R_drew HO333.out); replace HO337 := Aside0.mk (Kd.R_drew HO337.out); replace HB := Aside0.mk (below_drew1 HB.out); obtain ⟨Ao16, co16, eo16⟩ := Kd.R_slice HO333.out
    (first | subst eo16 | (injection eo16 with f1_ f2_ f3_; have f4_ := f1_.symm; have f5_ := f3_.symm; clear f1_ f2_ f3_; subst f4_; subst f5_))
    have p338 : 0 ≤ (0 : Int) := (by omega); have q338 : 0 < (t329.length : Int) := oD; obtain ⟨ad338, e338, hx338_0⟩ := Kd.at_int (Kd.R_reads' HO333.out).2.2 0 p338 q338; cases e338; have qi338 : (0 < t329.length) = True := eq_true (by omega)
    (try rw [show ((0 : Int)).toNat = 0 from rfl] at hx338_0)
    (try rw [Addr.add_zero'] at hx338_0)
    replace p338 := eq_true p338; replace q338 := eq_true q338; obtain ⟨Ao17, co17, eo17⟩ := Kd.R_slice HO337.out
    (first | subst eo17 | (injection eo17 with f1_ f2_ f3_; have f4_ := f1_.symm; have f5_ := f3_.symm; clear f1_ f2_ f3_; subst f4_; subst f5_))
    have p339 : 0 ≤ (0 : Int) := (by omega); have q339 : 0 < (t334.length : Int) := oD; obtain ⟨ad339, e339, hx339_0⟩ := Kd.at_int (Kd.R_reads' HO337.out).2.2 0 p339 q339; cases e339; have qi339 : (0 < t334.length) = True := eq_true (by omega)
    (try rw [show ((0 : Int)).toNat = 0 from rfl] at hx339_0)
    (try rw [Addr.add_zero'] at hx339_0)
    replace p339 := eq_true p339; replace q339 := eq_true q339; have p340 : 0 ≤ (1 : Int) := (by omega); have q340 : 1 < (t329.length : Int) := oD; obtain ⟨ad340, e340, hx340_0⟩ := Kd.at_int (Kd.R_reads' HO333.out).2.2 1 p340 q340; obtain rfl : ad338 = ad340 := (by injection e340)
    (try simp only [show (1 : Int).toNat = 1 from rfl, Nat.reduceMul, Nat.reduceEqDiff, Go.Addr.add, ↓reduceIte] at hx340_0)
    have qi340 : (1 < t329.length) = True := eq_true (by omega)
    (try rw [show ((1 : Int)).toNat = 1 from rfl] at hx340_0)
    replace p340 := eq_true p340; replace q340 := eq_true q340; have p341 : 0 ≤ (1 : Int) := (by omega); have q341 : 1 < (t334.length : Int) := oD; obtain ⟨ad341, e341, hx341_0⟩ := Kd.at_int (Kd.R_reads' HO337.out).2.2 1 p341 q341; obtain rfl : ad339 = ad341 := (by injection e341)
    (try simp only [show (1 : Int).toNat = 1 from rfl, Nat.reduceMul, Nat.reduceEqDiff, Go.Addr.add, ↓reduceIte] at hx341_0)
    have qi341 : (1 < t334.length) = True := eq_true (by omega)
    (try rw [show ((1 : Int)).toNat = 1 from rfl] at hx341_0)
    replace p341 := eq_true p341; replace q341 := eq_true q341; have p342 : 0 ≤ (2 : Int) := (by omega); have q342 : 2 < (t329.length : Int) := oD; obtain ⟨ad342, e342, hx342_0⟩ := Kd.at_int (Kd.R_reads' HO333.out).2.2 2 p342 q342; obtain rfl : ad338 = ad342 := (by injection e342)
    (try simp only [show (2 : Int).toNat = 2 from rfl, Nat.reduceMul, Nat.reduceEqDiff, Go.Addr.add, ↓reduceIte] at hx342_0)
    have qi342 : (2 < t329.length) = True := eq_true (by omega)
    (try rw [show ((2 : Int)).toNat = 2 from rfl] at hx342_0)
    replace p342 := eq_true p342; replace q342 := eq_true q342; have p343 : 0 ≤ (2 : Int) := (by omega); have q343 : 2 < (t334.length : Int) := oD; obtain ⟨ad343, e343, hx343_0⟩ := Kd.at_int (Kd.R_reads' HO337.out).2.2 2 p343 q343; obtain rfl : ad339 = ad343 := (by injection e343)
    (try simp only [show (2 : Int).toNat = 2 from rfl, Nat.reduceMul, Nat.reduceEqDiff, Go.Addr.add, ↓reduceIte] at hx343_0)
    have qi343 : (2 < t334.length) = True := eq_true (by omega)
    (try rw [show ((2 : Int)).toNat = 2 from rfl] at hx343_0)
    replace p343 := eq_true p343; replace q343 := eq_true q343
    refine start_ (n := 25) (S := fun w' => w'.cell? ad338 = some (.int .i64 (rd t329 0)) ∧ w'.cell? ad339 = some (.int .i64 (rd t334 0)) ∧ w'.cell? ⟨ad338.block, ad338.off + 1, none⟩ = some (.int .i64 (rd t329 1)) ∧ w'.cell? ⟨ad339.block, ad339.off + 1, none⟩ = some (.int .i64 (rd t334 1)) ∧ w'.cell? ⟨ad338.block, ad338.off + 2, none⟩ = some (.int .i64 (rd t329 2)) ∧ w'.cell? ⟨ad339.block, ad339.off + 2, none⟩ = some (.int .i64 (rd t334 2))) (ds := []) #[false, false, false, false, false, false, false, false, false, false, false, false, false, false, false, false, false, false, false, false, false, false, false, false, false] (by kernel_rfl) rfl rfl ⟨hx338_0, hx339_0, hx340_0, hx341_0, hx342_0, hx343_0⟩ (fun hHeld => ?_); refine with_tabW spec_l5Three.tab5 spec_l5Three.bits5 (fun HT_ HW_ => ?_)
    generalize w14.drew = w15 at HO331 HO333 HO337 HB hx338_0 hx339_0 hx340_0 hx341_0 hx342_0 hx343_0 hHeld ⊢
    refine pure_ (i := 0) (N := some 21) (v := ?_) (a' := ?_) #[true, false, false, false, false, false, false, false, false, false, false, false, false, false, false, false, false, false, false, false, false, false, false, false, false] rfl rfl (any_of HT_.out (by kernel_rfl)) (fun _ _ _ h => h) (Or.inl ⟨by rfl, ?_⟩) ?_ ?_
    rotate_left
    · intro w'
      go_simp
      with_reducible rfl
    rotate_left
    · simp only [Act.put, List.setIfInBounds_toArray, List.set_cons_zero, List.set_cons_succ, i64_w, i32_w]
      rfl
    refine pure_ (i := 1) (N := some 22) (v := ?_) (a' := ?_) #[true, true, false, false, false, false, false, false, false, false, false, false, false, false, false, false, false, false, false, false, false, false, false, false, false] rfl rfl (any_of HT_.out (by kernel_rfl)) (fun _ _ _ h => h) (Or.inl ⟨by rfl, ?_⟩) ?_ ?_
    rotate_left
    · intro w'
      go_simp
      with_reducible rfl
    rotate_left
    · simp only [Act.put, List.setIfInBounds_toArray, List.set_cons_zero, List.set_cons_succ, i64_w, i32_w]
      rfl
    refine pure_ (i := 3) (N := some 24) (v := ?_) (a' := ?_) #[true, true, false, true, false, false, false, false, false, false, false, false, false, false, false, false, false, false, false, false, false, false, false, false, false] rfl rfl (any_of HT_.out (by kernel_rfl)) (fun _ _ _ h => h) (Or.inl ⟨by rfl, ?_⟩) ?_ ?_
    rotate_left
    · intro w'
      go_simp
      with_reducible rfl
    rotate_left
    · simp only [Act.put, List.setIfInBounds_toArray, List.set_cons_zero, List.set_cons_succ, i64_w, i32_w]
      rfl
    refine pure_ (i := 4) (N := some 25) (v := ?_) (a' := ?_) #[true, true, false, true, true, false, false, false, false, false, false, false, false, false, false, false, false, false, false, false, false, false, false, false, false] rfl rfl (any_of HT_.out (by kernel_rfl)) (fun _ _ _ h => h) (Or.inl ⟨by rfl, ?_⟩) ?_ ?_
    rotate_left
    · intro w'
      go_simp
      with_reducible rfl
    rotate_left
    · simp only [Act.put, List.setIfInBounds_toArray, List.set_cons_zero, List.set_cons_succ, i64_w, i32_w]
      rfl
    refine pure_ (i := 7) (N := some 28) (v := ?_) (a' := ?_) #[true, true, false, true, true, false, false, true, false, false, false, false, false, false, false, false, false, false, false, false, false, false, false, false, false] rfl rfl (any_of HT_.out (by kernel_rfl)) (fun _ _ _ h => h) (Or.inl ⟨by rfl, ?_⟩) ?_ ?_
    rotate_left
    · intro w'
      go_simp
      with_reducible rfl
    rotate_left
    · simp only [Act.put, List.setIfInBounds_toArray, List.set_cons_zero, List.set_cons_succ, i64_w, i32_w]
      rfl
    refine pure_ (i := 8) (N := some 29) (v := ?_) (a' := ?_) #[true, true, false, true, true, false, false, true, true, false, false, false, false, false, false, false, false, false, false, false, false, false, false, false, false] rfl rfl (any_of HT_.out (by kernel_rfl)) (fun _ _ _ h => h) (Or.inl ⟨by rfl, ?_⟩) ?_ ?_
    rotate_left
    · intro w'
      go_simp
      with_reducible rfl
    rotate_left
    · simp only [Act.put, List.setIfInBounds_toArray, List.set_cons_zero, List.set_cons_succ, i64_w, i32_w]
      rfl
    refine pure_ (i := 10) (N := some 31) (v := ?_) (a' := ?_) #[true, true, false, true, true, false, false, true, true, false, true, false, false, false, false, false, false, false, false, false, false, false, false, false, false] rfl rfl (any_of HT_.out (by kernel_rfl)) (fun _ _ _ h => h) (Or.inl ⟨by rfl, ?_⟩) ?_ ?_
    rotate_left
    · intro w'
      go_simp
      with_reducible rfl
    rotate_left
    · simp only [Act.put, List.setIfInBounds_toArray, List.set_cons_zero, List.set_cons_succ, i64_w, i32_w]
      rfl
    refine pure_ (i := 11) (N := some 32) (v := ?_) (a' := ?_) #[true, true, false, true, true, false, false, true, true, false, true, true, false, false, false, false, false, false, false, false, false, false, false, false, false] rfl rfl (any_of HT_.out (by kernel_rfl)) (fun _ _ _ h => h) (Or.inl ⟨by rfl, ?_⟩) ?_ ?_
    rotate_left
    · intro w'
      go_simp
      with_reducible rfl
    rotate_left
    · simp only [Act.put, List.setIfInBounds_toArray, List.set_cons_zero, List.set_cons_succ, i64_w, i32_w]
      rfl
    refine pure_ (i := 14) (N := some 35) (v := ?_) (a' := ?_) #[true, true, false, true, true, false, false, true, true, false, true, true, false, false, true, false, false, false, false, false, false, false, false, false, false] rfl rfl (any_of HT_.out (by kernel_rfl)) (fun _ _ _ h => h) (Or.inl ⟨by rfl, ?_⟩) ?_ ?_
    rotate_left
    · intro w'
      go_simp
      with_reducible rfl
    rotate_left
    · simp only [Act.put, List.setIfInBounds_toArray, List.set_cons_zero, List.set_cons_succ, i64_w, i32_w]
      rfl
    refine pure_ (i := 15) (N := some 36) (v := ?_) (a' := ?_) #[true, true, false, true, true, false, false, true, true, false, true, true, false, false, true, true, false, false, false, false, false, false, false, false, false] rfl rfl (any_of HT_.out (by kernel_rfl)) (fun _ _ _ h => h) (Or.inl ⟨by rfl, ?_⟩) ?_ ?_
    rotate_left
    · intro w'
      go_simp
      with_reducible rfl
    rotate_left
    · simp only [Act.put, List.setIfInBounds_toArray, List.set_cons_zero, List.set_cons_succ, i64_w, i32_w]
      rfl
    refine pure_ (i := 17) (N := some 38) (v := ?_) (a' := ?_) #[true, true, false, true, true, false, false, true, true, false, true, true, false, false, true, true, false, true, false, false, false, false, false, false, false] rfl rfl (any_of HT_.out (by kernel_rfl)) (fun _ _ _ h => h) (Or.inl ⟨by rfl, ?_⟩) ?_ ?_
    rotate_left
    · intro w'
      go_simp
      with_reducible rfl
    rotate_left
    · simp only [Act.put, List.setIfInBounds_toArray, List.set_cons_zero, List.set_cons_succ, i64_w, i32_w]
      rfl
    refine pure_ (i := 18) (N := some 39) (v := ?_) (a' := ?_) #[true, true, false, true, true, false, false, true, true, false, true, true, false, false, true, true, false, true, true, false, false, false, false, false, false] rfl rfl (any_of HT_.out (by kernel_rfl)) (fun _ _ _ h => h) (Or.inl ⟨by rfl, ?_⟩) ?_ ?_
    rotate_left
    · intro w'
      go_simp
      with_reducible rfl
    rotate_left
    · simp only [Act.put, List.setIfInBounds_toArray, List.set_cons_zero, List.set_cons_succ, i64_w, i32_w]
      rfl
    refine take_ (i := 2) (N := some 23) (v := ?_) (a' := ?_) #[true, true, true, true, true, false, false, true, true, false, true, true, false, false, true, true, false, true, true, false, false, false, false, false, false] rfl rfl (take_ofW HT_.out HW_.out (by kernel_rfl)) (fun _ _ _ h => h) (Or.inl ⟨by rfl, ?_⟩) hHeld ?_ ?_
    rotate_left
    · rintro w' ⟨s0, s1, s2, s3, s4, s5⟩
      go_simp
      with_reducible rfl
    rotate_left
    · simp only [Act.put, List.setIfInBounds_toArray, List.set_cons_zero, List.set_cons_succ, i64_w, i32_w]
      rfl
    refine take_ (i := 5) (N := some 26) (v := ?_) (a' := ?_) #[true, true, true, true, true, true, false, true, true, false, true, true, false, false, true, true, false, true, true, false, false, false, false, false, false] rfl rfl (take_ofW HT_.out HW_.out (by kernel_rfl)) (fun _ _ _ h => h) (Or.inl ⟨by rfl, ?_⟩) hHeld ?_ ?_
    rotate_left
    · rintro w' ⟨s0, s1, s2, s3, s4, s5⟩
      go_simp
      with_reducible rfl
    rotate_left
    · simp only [Act.put, List.setIfInBounds_toArray, List.set_cons_zero, List.set_cons_succ, i64_w, i32_w]
      rfl
    refine pure_ (i := 6) (N := some 27) (v := ?_) (a' := ?_) #[true, true, true, true, true, true, true, true, true, false, true, true, false, false, true, true, false, true, true, false, false, false, false, false, false] rfl rfl (any_of HT_.out (by kernel_rfl)) (fun _ _ _ h => h) (Or.inl ⟨by rfl, ?_⟩) ?_ ?_
    rotate_left
    · intro w'
      go_simp
      with_reducible rfl
    rotate_left
    · simp only [Act.put, List.setIfInBounds_toArray, List.set_cons_zero, List.set_cons_succ, i64_w, i32_w]
      rfl
    refine take_ (i := 9) (N := some 30) (v := ?_) (a' := ?_) #[true, true, true, true, true, true, true, true, true, true, true, true, false, false, true, true, false, true, true, false, false, false, false, false, false] rfl rfl (take_ofW HT_.out HW_.out (by kernel_rfl)) (fun _ _ _ h => h) (Or.inl ⟨by rfl, ?_⟩) hHeld ?_ ?_
    rotate_left
    · rintro w' ⟨s0, s1, s2, s3, s4, s5⟩
      go_simp
      with_reducible rfl
    rotate_left
    · simp only [Act.put, List.setIfInBounds_toArray, List.set_cons_zero, List.set_cons_succ, i64_w, i32_w]
      rfl
    refine take_ (i := 12) (N := some 33) (v := ?_) (a' := ?_) #[true, true, true, true, true, true, true, true, true, true, true, true, true, false, true, true, false, true, true, false, false, false, false, false, false] rfl rfl (take_ofW HT_.out HW_.out (by kernel_rfl)) (fun _ _ _ h => h) (Or.inl ⟨by rfl, ?_⟩) hHeld ?_ ?_
    rotate_left
    · rintro w' ⟨s0, s1, s2, s3, s4, s5⟩
      go_simp
      with_reducible rfl
    rotate_left
    · simp only [Act.put, List.setIfInBounds_toArray, List.set_cons_zero, List.set_cons_succ, i64_w, i32_w]
      rfl
    refine pure_ (i := 13) (N := some 34) (v := ?_) (a' := ?_) #[true, true, true, true, true, true, true, true, true, true, true, true, true, true, true, true, false, true, true, false, false, false, false, false, false] rfl rfl (any_of HT_.out (by kernel_rfl)) (fun _ _ _ h => h) (Or.inl ⟨by rfl, ?_⟩) ?_ ?_
    rotate_left
    · intro w'
      go_simp
      with_reducible rfl
    rotate_left
    · simp only [Act.put, List.setIfInBounds_toArray, List.set_cons_zero, List.set_cons_succ, i64_w, i32_w]
      rfl
    refine take_ (i := 16) (N := some 37) (v := ?_) (a' := ?_) #[true, true, true, true, true, true, true, true, true, true, true, true, true, true, true, true, true, true, true, false, false, false, false, false, false] rfl rfl (take_ofW HT_.out HW_.out (by kernel_rfl)) (fun _ _ _ h => h) (Or.inl ⟨by rfl, ?_⟩) hHeld ?_ ?_
    rotate_left
    · rintro w' ⟨s0, s1, s2, s3, s4, s5⟩
      go_simp
      with_reducible rfl
    rotate_left
    · simp only [Act.put, List.setIfInBounds_toArray, List.set_cons_zero, List.set_cons_succ, i64_w, i32_w]
      rfl
    refine take_ (i := 19) (N := some 40) (v := ?_) (a' := ?_) #[true, true, true, true, true, true, true, true, true, true, true, true, true, true, true, true, true, true, true, true, false, false, false, false, false] rfl rfl (take_ofW HT_.out HW_.out (by kernel_rfl)) (fun _ _ _ h => h) (Or.inl ⟨by rfl, ?_⟩) hHeld ?_ ?_
    rotate_left
    · rintro w' ⟨s0, s1, s2, s3, s4, s5⟩
      go_simp
      with_reducible rfl
    rotate_left
    · simp only [Act.put, List.setIfInBounds_toArray, List.set_cons_zero, List.set_cons_succ, i64_w, i32_w]
      rfl
    refine pure_ (i := 20) (N := some 41) (v := ?_) (a' := ?_) #[true, true, true, true, true, true, true, true, true, true, true, true, true, true, true, true, true, true, true, true, true, false, false, false, false] rfl rfl (any_of HT_.out (by kernel_rfl)) (fun _ _ _ h => h) (Or.inl ⟨by rfl, ?_⟩) ?_ ?_
    rotate_left
    · intro w'
      go_simp
      with_reducible rfl
    rotate_left
    · simp only [Act.put, List.setIfInBounds_toArray, List.set_cons_zero, List.set_cons_succ, i64_w, i32_w]
      rfl
    refine one_ (i := 21) (N := some 42) #[true, true, true, true, true, true, true, true, true, true, true, true, true, true, true, true, true, true, true, true, true, true, false, false, false] rfl rfl (one_of HT_.out (by kernel_rfl)) (by decide) (fun K hK => ?_)
    refine Kd.R_lit_step (Kd.int .i64) _ 3 ?hg (N := 42) ?hd (xs := ([wrap64 ((rd t329 0) * (rd t334 0)), wrap64 ((rd t329 1) * (rd t334 1)), wrap64 ((rd t329 2) * (rd t334 2))] : List Int)) (inner := [.int .i64 (wrap64 ((rd t329 0) * (rd t334 0))), .int .i64 (wrap64 ((rd t329 1) * (rd t334 1))), .int .i64 (wrap64 ((rd t329 2) * (rd t334 2)))]) (ok := fun _ => True) (okp := fun _ => True) ?hr ?hp (fun _ hk => hk) trivial (Below.refl _ _) (Nat.le_refl _) (by simp) ?_; (case hd => rfl); (case hg => rfl); (case hr => first | (go_simp; done) | (go_simp; rfl)); (case hp => exact (Reps.one (show Kd.M (Kd.int .i64) _ _ _ (wrap64 ((rd t329 0) * (rd t334 0))) [.int .i64 (wrap64 ((rd t329 0) * (rd t334 0)))] from rfl) (Reps.one (show Kd.M (Kd.int .i64) _ _ _ (wrap64 ((rd t329 1) * (rd t334 1))) [.int .i64 (wrap64 ((rd t329 1) * (rd t334 1)))] from rfl) (Reps.one (show Kd.M (Kd.int .i64) _ _ _ (wrap64 ((rd t329 2) * (rd t334 2))) [.int .i64 (wrap64 ((rd t329 2) * (rd t334 2)))] from rfl) (Reps.none _ _)))))
    intro v345 w18 ho19 hb hg_ hnew_; have HS0_ := (hb.cell (World.block_lt_of_cell? _ _ (hHeld.1))).trans (hHeld.1); have HS1_ := (hb.cell (World.block_lt_of_cell? _ _ (hHeld.2.1))).trans (hHeld.2.1); have HS2_ := (hb.cell (World.block_lt_of_cell? _ _ (hHeld.2.2.1))).trans (hHeld.2.2.1); have HS3_ := (hb.cell (World.block_lt_of_cell? _ _ (hHeld.2.2.2.1))).trans (hHeld.2.2.2.1); have HS4_ := (hb.cell (World.block_lt_of_cell? _ _ (hHeld.2.2.2.2.1))).trans (hHeld.2.2.2.2.1); have HS5_ := (hb.cell (World.block_lt_of_cell? _ _ (hHeld.2.2.2.2.2))).trans (hHeld.2.2.2.2.2); clear hg_ hnew_
    (first | rw [← Ny344.out] at ho19 | (simp only [Int.reduceToNat] at ho19; rw [← Ny344.out] at ho19))
    have HO346 := Aside0.mk (Kd.R_lower (Kd.R_new' (Kd.R_new' (Kd.R_new' ho19 (Kd.R_lt (U HO331.out))) (Kd.R_lt (U HO333.out))) (Kd.R_lt (U HO337.out))) (below_size BU)); replace HO331 := Aside0.mk (Kd.R_elder' (U HO331.out) (Kd.R_base ho19) hb); replace HO333 := Aside0.mk (Kd.R_elder' (U HO333.out) (Kd.R_base ho19) hb); replace HO337 := Aside0.mk (Kd.R_elder' (U HO337.out) (Kd.R_base ho19) hb); replace HB := BS hb; clear hb ho19; obtain ⟨Ao20, co20, eo20⟩ := Kd.R_slice HO346.out
    (first | subst eo20 | (injection eo20 with f1_ f2_ f3_; have f4_ := f1_.symm; have f5_ := f3_.symm; clear f1_ f2_ f3_; subst f4_; subst f5_))
    refine hK.out _ _ ⟨HS0_, HS1_, HS2_, HS3_, HS4_, HS5_⟩ (fun hHeld => ?_)
    clear hK K
    refine norm_ (a' := ?_) ?_ ?_
    rotate_left
    · show Act.put _ (some 42) _ = _
      simp only [Act.put, List.setIfInBounds_toArray, List.set_cons_zero, List.set_cons_succ, i64_w, i32_w]
      rfl
    refine one_ (i := 22) (N := some 43) #[true, true, true, true, true, true, true, true, true, true, true, true, true, true, true, true, true, true, true, true, true, true, true, false, false] rfl rfl (one_of HT_.out (by kernel_rfl)) (by decide) (fun K hK => ?_)
    refine goes_ Try.func48 (by kernel_rfl) rfl #[.slice Ao20 y344.length co20] (by rfl) rfl rfl (by (try simp only [List.map_toArray, List.map_cons, List.map_nil]); first | done | rfl | (simp only [List.length_drop, List.length_take]; rfl)) ?_
    with_reducible refine (spec_l5Plain.calls k _ _ y344 t347 _ ?side1 ?side2 A11.out).mono ?_
    (case side1 => exact U ((Kd.R_reads' HO346.out).2.2))
    (case side2 => exact (Kd.R_reads' HO346.out).2.1)
    rintro e w21 ⟨v348, rfl, ho0, hb⟩; have HS0_ := (hb.cell (World.block_lt_of_cell? _ _ (hHeld.1))).trans (hHeld.1); have HS1_ := (hb.cell (World.block_lt_of_cell? _ _ (hHeld.2.1))).trans (hHeld.2.1); have HS2_ := (hb.cell (World.block_lt_of_cell? _ _ (hHeld.2.2.1))).trans (hHeld.2.2.1); have HS3_ := (hb.cell (World.block_lt_of_cell? _ _ (hHeld.2.2.2.1))).trans (hHeld.2.2.2.1); have HS4_ := (hb.cell (World.block_lt_of_cell? _ _ (hHeld.2.2.2.2.1))).trans (hHeld.2.2.2.2.1); have HS5_ := (hb.cell (World.block_lt_of_cell? _ _ (hHeld.2.2.2.2.2))).trans (hHeld.2.2.2.2.2)
    refine ⟨_, rfl, ?_⟩
    have HO349 := Aside0.mk (Kd.R_lower (Kd.R_new' (Kd.R_new' (Kd.R_new' (Kd.R_new' ho0 (Kd.R_lt (U HO331.out))) (Kd.R_lt (U HO333.out))) (Kd.R_lt (U HO337.out))) (Kd.R_lt (U HO346.out))) (below_size BU)); replace HO331 := Aside0.mk (Kd.R_elder' (U HO331.out) (Kd.R_base ho0) hb); replace HO333 := Aside0.mk (Kd.R_elder' (U HO333.out) (Kd.R_base ho0) hb); replace HO337 := Aside0.mk (Kd.R_elder' (U HO337.out) (Kd.R_base ho0) hb); replace HO346 := Aside0.mk (Kd.R_elder' (U HO346.out) (Kd.R_base ho0) hb); replace HB := BS hb; (try clear hb); (try clear hb2); (try clear hk); (try clear hi); (try clear ho0)
    refine hK.out _ _ ⟨HS0_, HS1_, HS2_, HS3_, HS4_, HS5_⟩ (fun hHeld => ?_)
    clear hK K
    refine norm_ (a' := ?_) ?_ ?_
    rotate_left
    · show Act.put _ (some 43) _ = _
      simp only [Act.put, List.setIfInBounds_toArray, List.set_cons_zero, List.set_cons_succ, i64_w, i32_w]
      rfl
    refine pure_ (i := 23) (N := some 2) (v := ?_) (a' := ?_) #[true, true, true, true, true, true, true, true, true, true, true, true, true, true, true, true, true, true, true, true, true, true, true, true, false] rfl rfl (any_of HT_.out (by kernel_rfl)) (fun _ _ _ h => h) (Or.inl ⟨by rfl, ?_⟩) ?_ ?_
    rotate_left
    · intro w'
      go_simp
      with_reducible rfl
    rotate_left
    · simp only [Act.put, List.setIfInBounds_toArray, List.set_cons_zero, List.set_cons_succ, i64_w, i32_w]
      rfl
    refine pure_ (i := 24) (N := some 3) (v := ?_) (a' := ?_) #[true, true, true, true, true, true, true, true, true, true, true, true, true, true, true, true, true, true, true, true, true, true, true, true, true] rfl rfl (any_of HT_.out (by kernel_rfl)) (fun _ _ _ h => h) (Or.inl ⟨by rfl, ?_⟩) ?_ ?_
    rotate_left
    · intro w'
      go_simp
      with_reducible rfl
    rotate_left
    · simp only [Act.put, List.setIfInBounds_toArray, List.set_cons_zero, List.set_cons_succ, i64_w, i32_w]
      rfl
    refine done_ (done_of HT_.out (by kernel_rfl)) ?_
    try go_wp2
    go_ret2
    exact ⟨_, eR, Kd.RM HO349.out (fun _ hk => trivial), BU⟩
  replace c4 := Bool.eq_false_iff.mpr c4; subst c4; replace H := ifF H; obtain ⟨y350, hy350⟩ : ∃ y_ : List Int, y_ = (([] : List Int)) := ⟨_, rfl⟩; replace H : (some (y350, false)) = some (r1, r2) := rH hy350 H; have Ny350 := Aside0.mk hy350; clear hy350; simp only [Option.some.injEq, Prod.mk.injEq] at H; obtain ⟨rfl, rfl⟩ := H; go_enter Try.func68, Try.ntmps68
  go_wp2_with (first | ((with_reducible refine gate_callee (f := 70) rfl ?_); refine goesK (some 10) Try.func70 #[.slice A0 l0.length c0] ?_; (with_reducible refine (spec_l5Normal.calls k _ _ l0 t328 t329 _ ?side1 ?side2 A2.out).mono ?_); (case side1 => exact U HR0.out); (case side2 => exact HC0.out); rintro e w22 ⟨v330, v332, rfl, ho0, ho1, hb⟩; refine ⟨_, rfl, ?_⟩; have HO331 := Aside0.mk (Kd.R_lower ho0 (below_size BU)); have HO333 := Aside0.mk (Kd.R_lower ho1 (below_size BU)); replace HB := BS hb; (try clear hb); (try clear ho0); (try clear ho1); obtain ⟨Ao23, co23, eo23⟩ := Kd.R_slice HO331.out; subst eo23) | ((with_reducible refine gate_callee (f := 71) rfl ?_); refine goesK (some 15) Try.func71 #[.slice Ao23 t328.length co23] ?_; (with_reducible refine (spec_l5Search.calls k _ _ t328 t334 false _ ?side1 ?side2 A3.out).mono ?_); (case side1 => exact U ((Kd.R_reads' HO331.out).2.2)); (case side2 => exact (Kd.R_reads' HO331.out).2.1); rintro e w24 ⟨v336, rfl, ho0, hb⟩; refine ⟨_, rfl, ?_⟩; have HO337 := Aside0.mk (Kd.R_lower (Kd.R_new' (Kd.R_new' ho0 (Kd.R_lt (U HO331.out))) (Kd.R_lt (U HO333.out))) (below_size BU)); replace HO331 := Aside0.mk (Kd.R_elder' (U HO331.out) (Kd.R_base ho0) hb); replace HO333 := Aside0.mk (Kd.R_elder' (U HO333.out) (Kd.R_base ho0) hb); replace HB := BS hb; (try clear hb); (try clear ho0)) | ((with_reducible refine gate_dst (N := 20) rfl ?_); refine Kd.R_lit (Kd.int .i64) _ 3 ?hg (N := 20) ?hd (xs := ([] : List Int)) (inner := []) (ok := fun _ => True) (okp := fun _ => True) ?hr ?hp (fun _ hk => hk) trivial (Below.refl _ _) (Nat.le_refl _) (by simp) ?_; (case hd => rfl); (case hg => rfl); (case hr => first | (go_simp; done) | (go_simp; rfl)); (case hp => exact (Reps.none _ _)); intro v351 w25 ho26 hb hg_ hnew_; clear hg_ hnew_; (first | rw [← Ny350.out] at ho26 | (simp only [Int.reduceToNat] at ho26; rw [← Ny350.out] at ho26)); have HO352 := Aside0.mk (Kd.R_lower (Kd.R_new' (Kd.R_new' (Kd.R_new' ho26 (Kd.R_lt (U HO331.out))) (Kd.R_lt (U HO333.out))) (Kd.R_lt (U HO337.out))) (below_size BU)); replace HO331 := Aside0.mk (Kd.R_elder' (U HO331.out) (Kd.R_base ho26) hb); replace HO333 := Aside0.mk (Kd.R_elder' (U HO333.out) (Kd.R_base ho26) hb); replace HO337 := Aside0.mk (Kd.R_elder' (U HO337.out) (Kd.R_base ho26) hb); replace HB := BS hb; clear hb ho26))
  go_ret2
  exact ⟨_, eR, Kd.RM HO352.out (fun _ hk => trivial), BU⟩

end Go.Proofs.Ytpaohkhmhdhibaa.PFnConicMany
