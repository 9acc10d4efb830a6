-- Written by a program of this session (wip/print2.py): the functions that the law reaches, plain, and the walks.
import Derived.Test.YtpaohkhmhdhibaaPFnOtherx0
import Derived.Test.YtpaohkhmhdhibaaPFnOtherx5
import Derived.Test.YtpaohkhmhdhibaaPFnOtherx6
import Derived.Test.YtpaohkhmhdhibaaPFnOtherx7
namespace Go.Proofs.Ytpaohkhmhdhibaa.PFnOther
open Go.RowKit Go.Proofs.YtpaohkhmhdhibaaW.PrintWords Go.Proofs.YtpaohkhmhdhibaaW.PrintLast Go.Proofs.YtpaohkhmhdhibaaW.PrintMore
attribute [local go_sem] max2_int min2_int max_two min_two max_three min_three max_four min_four   -- for this text's walks alone
set_option linter.unusedVariables false
set_option linter.unusedSimpArgs false

/-! ### spec_l5Three: function 68 -/
def spec_l5Three.f (k : Nat) (l0 : List Int) : Option (List Int × Bool) := (spec_l5Normal.f k l0).bind fun bt270 => ((spec_l5Search.f k bt270.1).bind fun bt276 => (if bt276.2 = true then (if 0 < (bt270.2.length : Int) then (if 0 < (bt276.1.length : Int) then (if 1 < (bt270.2.length : Int) then (if 1 < (bt276.1.length : Int) then (if 2 < (bt270.2.length : Int) then (if 2 < (bt276.1.length : Int) then ((spec_l5Plain.f k (([wrap64 ((rd bt270.2 0) * (rd bt276.1 0)), wrap64 ((rd bt270.2 1) * (rd bt276.1 1)), wrap64 ((rd bt270.2 2) * (rd bt276.1 2))] : List Int))).bind fun t289 => (some (t289, true))) else (none)) else (none)) else (none)) else (none)) else (none)) else (none)) else (some ((([] : List Int)), false))))
theorem spec_l5Three.mono : ∀ a0 k, LeO (spec_l5Three.f k a0) (spec_l5Three.f (k + 1) a0) := by
  intro a0 k
  unfold spec_l5Three.f
  repeat' first
      | (with_reducible exact spec_l5Normal.mono _ _)
      | (with_reducible exact spec_l5Plain.mono _ _)
      | (with_reducible exact spec_l5Search.mono _ _)
      | (with_reducible exact LeO.refl _)
      | (with_reducible exact LeO.none _)
      | (with_reducible refine LeO.ite ?_ ?_)
      | (with_reducible refine LeO.bind ?_ (fun _ => ?_))
      | exact spec_l5Normal.mono _ _
      | exact spec_l5Plain.mono _ _
      | exact spec_l5Search.mono _ _
      | exact LeO.none _
      | refine LeO.ite ?_ ?_
      | refine LeO.bind ?_ (fun _ => ?_)
def spec_l5Three.T5 : Bool × List (List Nat × List Nat) := (true, [([], []), ([0], [0]), ([1], [1]), ([], []), ([3], [3]), ([4], [4]), ([2, 5], [2, 5]), ([], []), ([7], [7]), ([8], [8]), ([], []), ([10], [10]), ([11], [11]), ([9, 12], [9, 12]), ([], []), ([14], [14]), ([15], [15]), ([], []), ([17], [17]), ([18], [18]), ([16, 19], [16, 19]), ([6, 13, 20], [6, 13, 20]), ([21], [21]), ([22, 22, 0, 1, 2, 3, 4, 5, 6, 7, 8, 9, 10, 11, 12, 13, 14, 15, 16, 17, 18, 19, 20, 21, 22], [22]), ([23, 0, 1, 2, 3, 4, 5, 6, 7, 8, 9, 10, 11, 12, 13, 14, 15, 16, 17, 18, 19, 20, 21, 22, 23], [])])
def spec_l5Three.B5 : List Nat := [0, 1, 3, 0, 8, 24, 63, 0, 128, 384, 0, 1024, 3072, 8064, 0, 16384, 49152, 0, 131072, 393216, 1032192, 2097151, 4194303, 8388607, 16777215]
theorem spec_l5Three.tab5 : rtab .any (opsOf Try.f68 5) = spec_l5Three.T5 := by kernel_rfl
theorem spec_l5Three.bits5 : waitsOk spec_l5Three.T5.2 spec_l5Three.B5 = true := by kernel_rfl
set_option maxHeartbeats 8000000 in
set_option maxRecDepth 100000 in
theorem spec_l5Three.calls (k : Nat) (A0 : Option Addr) (c0 : Nat) (l0 : List Int) (r1 : List Int) (r2 : Bool) (w : World) (hr0 : Kd.C (Kd.int .i64) w A0 l0.length l0) (hc0 : l0.length ≤ c0) (h : spec_l5Three.f k l0 = some (r1, r2)) :
    Calls Try.prog 68 #[.slice A0 l0.length c0] w fun e w' => ∃ v0_ : Value, e = .returned (.tuple #[v0_, .bool r2]) ∧ Kd.R (Kd.int .i64) 3 w' w.heap.size (fun _ => True) v0_ r1 ∧ Below w.heap.size w w' := by
  have HR0 := Aside0.mk hr0; have HC0 := Aside0.mk hc0; clear hr0 hc0; have HB := Aside0.mk (Below.refl w.heap.size w); unfold spec_l5Three.f at h; have H := h; clear h; obtain ⟨⟨t270, t271⟩, A2, H⟩ := bnd H
  replace H : ((spec_l5Search.f k t270).bind fun bt276 => (if bt276.2 = true then (if 0 < (t271.length : Int) then (if 0 < (bt276.1.length : Int) then (if 1 < (t271.length : Int) then (if 1 < (bt276.1.length : Int) then (if 2 < (t271.length : Int) then (if 2 < (bt276.1.length : Int) then ((spec_l5Plain.f k (([wrap64 ((rd t271 0) * (rd bt276.1 0)), wrap64 ((rd t271 1) * (rd bt276.1 1)), wrap64 ((rd t271 2) * (rd bt276.1 2))] : List Int))).bind fun t289 => (some (t289, true))) else (none)) else (none)) else (none)) else (none)) else (none)) else (none)) else (some ((([] : List Int)), false)))) = some (r1, r2) := H
  obtain ⟨⟨t276, t277⟩, A3, H⟩ := bnd H
  replace H : (if t277 = true then (if 0 < (t271.length : Int) then (if 0 < (t276.length : Int) then (if 1 < (t271.length : Int) then (if 1 < (t276.length : Int) then (if 2 < (t271.length : Int) then (if 2 < (t276.length : Int) then ((spec_l5Plain.f k (([wrap64 ((rd t271 0) * (rd t276 0)), wrap64 ((rd t271 1) * (rd t276 1)), wrap64 ((rd t271 2) * (rd t276 2))] : List Int))).bind fun t289 => (some (t289, true))) else (none)) else (none)) else (none)) else (none)) else (none)) else (none)) else (some ((([] : List Int)), false))) = some (r1, r2) := H
  by_cases c4 : t277 = true
  · subst c4
    replace H := ifT H; obtain ⟨c5, H⟩ := ifN H; have c5b0 : decide (0 < (t271.length : Int)) = true := decide_eq_true c5; have c5b1 : decide (0 < t271.length) = true := decide_eq_true (by omega); clear c5; obtain ⟨c6, H⟩ := ifN H; have c6b0 : decide (0 < (t276.length : Int)) = true := decide_eq_true c6; have c6b1 : decide (0 < t276.length) = true := decide_eq_true (by omega); clear c6; obtain ⟨c7, H⟩ := ifN H; have c7b0 : decide (1 < (t271.length : Int)) = true := decide_eq_true c7; have c7b1 : decide (1 < t271.length) = true := decide_eq_true (by omega); clear c7; obtain ⟨c8, H⟩ := ifN H; have c8b0 : decide (1 < (t276.length : Int)) = true := decide_eq_true c8; have c8b1 : decide (1 < t276.length) = true := decide_eq_true (by omega); clear c8; obtain ⟨c9, H⟩ := ifN H; have c9b0 : decide (2 < (t271.length : Int)) = true := decide_eq_true c9; have c9b1 : decide (2 < t271.length) = true := decide_eq_true (by omega); clear c9; obtain ⟨c10, H⟩ := ifN H; have c10b0 : decide (2 < (t276.length : Int)) = true := decide_eq_true c10; have c10b1 : decide (2 < t276.length) = true := decide_eq_true (by omega); clear c10; obtain ⟨y286, hy286⟩ : ∃ y_ : List Int, y_ = (([wrap64 ((rd t271 0) * (rd t276 0)), wrap64 ((rd t271 1) * (rd t276 1)), wrap64 ((rd t271 2) * (rd t276 2))] : List Int)) := ⟨_, rfl⟩; replace H : ((spec_l5Plain.f k y286).bind fun t289 => (some (t289, true))) = some (r1, r2) := rH hy286 H; have Ny286 := Aside0.mk hy286; clear hy286; obtain ⟨t289, A11, H⟩ := bnd H; simp only [Option.some.injEq, Prod.mk.injEq] at H; obtain ⟨rfl, rfl⟩ := H; go_enter Try.func68, Try.ntmps68
    try go_wp2_with (first | ((with_reducible refine gate_callee (f := 70) rfl ?_); refine goesK (some 10) Try.func70 #[.slice A0 l0.length c0] ?_; (with_reducible refine (spec_l5Normal.calls k _ _ l0 t270 t271 _ ?side1 ?side2 A2.out).mono ?_); (case side1 => exact U HR0.out); (case side2 => exact HC0.out); rintro e w12 ⟨v272, v274, rfl, ho0, ho1, hb⟩; refine ⟨_, rfl, ?_⟩; have HO273 := Aside0.mk (Kd.R_lower ho0 (below_size BU)); have HO275 := Aside0.mk (Kd.R_lower ho1 (below_size BU)); replace HB := BS hb; (try clear hb); (try clear ho0); (try clear ho1); obtain ⟨Ao13, co13, eo13⟩ := Kd.R_slice HO273.out; subst eo13) | ((with_reducible refine gate_callee (f := 71) rfl ?_); refine goesK (some 15) Try.func71 #[.slice Ao13 t270.length co13] ?_; (with_reducible refine (spec_l5Search.calls k _ _ t270 t276 true _ ?side1 ?side2 A3.out).mono ?_); (case side1 => exact U ((Kd.R_reads' HO273.out).2.2)); (case side2 => exact (Kd.R_reads' HO273.out).2.1); rintro e w14 ⟨v278, rfl, ho0, hb⟩; refine ⟨_, rfl, ?_⟩; have HO279 := Aside0.mk (Kd.R_lower (Kd.R_new' (Kd.R_new' ho0 (Kd.R_lt (U HO273.out))) (Kd.R_lt (U HO275.out))) (below_size BU)); replace HO273 := Aside0.mk (Kd.R_elder' (U HO273.out) (Kd.R_base ho0) hb); replace HO275 := Aside0.mk (Kd.R_elder' (U HO275.out) (Kd.R_base ho0) hb); replace HB := BS hb; (try clear hb); (try clear ho0)))
    replace HO273 := Aside0.mk (Kd.R_drew HO273.out); replace HO275 := Aside0.mk (Kd.R_drew HO275.out); replace HO279 := Aside0.mk (Kd.R_drew HO279.out); replace HB := Aside0.mk (below_drew1 HB.out); obtain ⟨Ao16, co16, eo16⟩ := Kd.R_slice HO275.out
    (first | subst eo16 | (injection eo16 with f1_ f2_ f3_; have f4_ := f1_.symm; have f5_ := f3_.symm; clear f1_ f2_ f3_; subst f4_; subst f5_))
    have p280 : 0 ≤ (0 : Int) := (by omega); have q280 : 0 < (t271.length : Int) := oD; obtain ⟨ad280, e280, hx280_0⟩ := Kd.at_int (Kd.R_reads' HO275.out).2.2 0 p280 q280; cases e280; have qi280 : (0 < t271.length) = True := eq_true (by omega)
    (try rw [show ((0 : Int)).toNat = 0 from rfl] at hx280_0)
    (try rw [Addr.add_zero'] at hx280_0)
    replace p280 := eq_true p280; replace q280 := eq_true q280; obtain ⟨Ao17, co17, eo17⟩ := Kd.R_slice HO279.out
    (first | subst eo17 | (injection eo17 with f1_ f2_ f3_; have f4_ := f1_.symm; have f5_ := f3_.symm; clear f1_ f2_ f3_; subst f4_; subst f5_))
    have p281 : 0 ≤ (0 : Int) := (by omega); have q281 : 0 < (t276.length : Int) := oD; obtain ⟨ad281, e281, hx281_0⟩ := Kd.at_int (Kd.R_reads' HO279.out).2.2 0 p281 q281; cases e281; have qi281 : (0 < t276.length) = True := eq_true (by omega)
    (try rw [show ((0 : Int)).toNat = 0 from rfl] at hx281_0)
    (try rw [Addr.add_zero'] at hx281_0)
    replace p281 := eq_true p281; replace q281 := eq_true q281; have p282 : 0 ≤ (1 : Int) := (by omega); have q282 : 1 < (t271.length : Int) := oD; obtain ⟨ad282, e282, hx282_0⟩ := Kd.at_int (Kd.R_reads' HO275.out).2.2 1 p282 q282; obtain rfl : ad280 = ad282 := (by injection e282)
    (try simp only [show (1 : Int).toNat = 1 from rfl, Nat.reduceMul, Nat.reduceEqDiff, Go.Addr.add, ↓reduceIte] at hx282_0)
    have qi282 : (1 < t271.length) = True := eq_true (by omega)
    (try rw [show ((1 : Int)).toNat = 1 from rfl] at hx282_0)
    replace p282 := eq_true p282; replace q282 := eq_true q282; have p283 : 0 ≤ (1 : Int) := (by omega); have q283 : 1 < (t276.length : Int) := oD; obtain ⟨ad283, e283, hx283_0⟩ := Kd.at_int (Kd.R_reads' HO279.out).2.2 1 p283 q283; obtain rfl : ad281 = ad283 := (by injection e283)
    (try simp only [show (1 : Int).toNat = 1 from rfl, Nat.reduceMul, Nat.reduceEqDiff, Go.Addr.add, ↓reduceIte] at hx283_0)
    have qi283 : (1 < t276.length) = True := eq_true (by omega)
    (try rw [show ((1 : Int)).toNat = 1 from rfl] at hx283_0)
    replace p283 := eq_true p283; replace q283 := eq_true q283; have p284 : 0 ≤ (2 : Int) := (by omega); have q284 : 2 < (t271.length : Int) := oD; obtain ⟨ad284, e284, hx284_0⟩ := Kd.at_int (Kd.R_reads' HO275.out).2.2 2 p284 q284; obtain rfl : ad280 = ad284 := (by injection e284)
    (try simp only [show (2 : Int).toNat = 2 from rfl, Nat.reduceMul, Nat.reduceEqDiff, Go.Addr.add, ↓reduceIte] at hx284_0)
    have qi284 : (2 < t271.length) = True := eq_true (by omega)
    (try rw [show ((2 : Int)).toNat = 2 from rfl] at hx284_0)
    replace p284 := eq_true p284; replace q284 := eq_true q284; have p285 : 0 ≤ (2 : Int) := (by omega); have q285 : 2 < (t276.length : Int) := oD; obtain ⟨ad285, e285, hx285_0⟩ := Kd.at_int (Kd.R_reads' HO279.out).2.2 2 p285 q285; obtain rfl : ad281 = ad285 := (by injection e285)
    (try simp only [show (2 : Int).toNat = 2 from rfl, Nat.reduceMul, Nat.reduceEqDiff, Go.Addr.add, ↓reduceIte] at hx285_0)
    have qi285 : (2 < t276.length) = True := eq_true (by omega)
    (try rw [show ((2 : Int)).toNat = 2 from rfl] at hx285_0)
    replace p285 := eq_true p285; replace q285 := eq_true q285
    refine start_ (n := 25) (S := fun w' => w'.cell? ad280 = some (.int .i64 (rd t271 0)) ∧ w'.cell? ad281 = some (.int .i64 (rd t276 0)) ∧ w'.cell? ⟨ad280.block, ad280.off + 1, none⟩ = some (.int .i64 (rd t271 1)) ∧ w'.cell? ⟨ad281.block, ad281.off + 1, none⟩ = some (.int .i64 (rd t276 1)) ∧ w'.cell? ⟨ad280.block, ad280.off + 2, none⟩ = some (.int .i64 (rd t271 2)) ∧ w'.cell? ⟨ad281.block, ad281.off + 2, none⟩ = some (.int .i64 (rd t276 2))) (ds := []) #[false, false, false, false, false, false, false, false, false, false, false, false, false, false, false, false, false, false, false, false, false, false, false, false, false] (by kernel_rfl) rfl rfl ⟨hx280_0, hx281_0, hx282_0, hx283_0, hx284_0, hx285_0⟩ (fun hHeld => ?_); refine with_tabW spec_l5Three.tab5 spec_l5Three.bits5 (fun HT_ HW_ => ?_)
    generalize w14.drew = w15 at HO273 HO275 HO279 HB hx280_0 hx281_0 hx282_0 hx283_0 hx284_0 hx285_0 hHeld ⊢
    refine pure_ (i := 0) (N := some 21) (v := ?_) (a' := ?_) #[true, false, false, false, false, false, false, false, false, false, false, false, false, false, false, false, false, false, false, false, false, false, false, false, false] rfl rfl (any_of HT_.out (by kernel_rfl)) (fun _ _ _ h => h) (Or.inl ⟨by rfl, ?_⟩) ?_ ?_
    rotate_left
    · intro w'
      go_simp
      with_reducible rfl
    rotate_left
    · simp only [Act.put, List.setIfInBounds_toArray, List.set_cons_zero, List.set_cons_succ, i64_w, i32_w]
      rfl
    refine pure_ (i := 1) (N := some 22) (v := ?_) (a' := ?_) #[true, true, false, false, false, false, false, false, false, false, false, false, false, false, false, false, false, false, false, false, false, false, false, false, false] rfl rfl (any_of HT_.out (by kernel_rfl)) (fun _ _ _ h => h) (Or.inl ⟨by rfl, ?_⟩) ?_ ?_
    rotate_left
    · intro w'
      go_simp
      with_reducible rfl
    rotate_left
    · simp only [Act.put, List.setIfInBounds_toArray, List.set_cons_zero, List.set_cons_succ, i64_w, i32_w]
      rfl
    refine pure_ (i := 3) (N := some 24) (v := ?_) (a' := ?_) #[true, true, false, true, false, false, false, false, false, false, false, false, false, false, false, false, false, false, false, false, false, false, false, false, false] rfl rfl (any_of HT_.out (by kernel_rfl)) (fun _ _ _ h => h) (Or.inl ⟨by rfl, ?_⟩) ?_ ?_
    rotate_left
    · intro w'
      go_simp
      with_reducible rfl
    rotate_left
    · simp only [Act.put, List.setIfInBounds_toArray, List.set_cons_zero, List.set_cons_succ, i64_w, i32_w]
      rfl
    refine pure_ (i := 4) (N := some 25) (v := ?_) (a' := ?_) #[true, true, false, true, true, false, false, false, false, false, false, false, false, false, false, false, false, false, false, false, false, false, false, false, false] rfl rfl (any_of HT_.out (by kernel_rfl)) (fun _ _ _ h => h) (Or.inl ⟨by rfl, ?_⟩) ?_ ?_
    rotate_left
    · intro w'
      go_simp
      with_reducible rfl
    rotate_left
    · simp only [Act.put, List.setIfInBounds_toArray, List.set_cons_zero, List.set_cons_succ, i64_w, i32_w]
      rfl
    refine pure_ (i := 7) (N := some 28) (v := ?_) (a' := ?_) #[true, true, false, true, true, false, false, true, false, false, false, false, false, false, false, false, false, false, false, false, false, false, false, false, false] rfl rfl (any_of HT_.out (by kernel_rfl)) (fun _ _ _ h => h) (Or.inl ⟨by rfl, ?_⟩) ?_ ?_
    rotate_left
    · intro w'
      go_simp
      with_reducible rfl
    rotate_left
    · simp only [Act.put, List.setIfInBounds_toArray, List.set_cons_zero, List.set_cons_succ, i64_w, i32_w]
      rfl
    refine pure_ (i := 8) (N := some 29) (v := ?_) (a' := ?_) #[true, true, false, true, true, false, false, true, true, false, false, false, false, false, false, false, false, false, false, false, false, false, false, false, false] rfl rfl (any_of HT_.out (by kernel_rfl)) (fun _ _ _ h => h) (Or.inl ⟨by rfl, ?_⟩) ?_ ?_
    rotate_left
    · intro w'
      go_simp
      with_reducible rfl
    rotate_left
    · simp only [Act.put, List.setIfInBounds_toArray, List.set_cons_zero, List.set_cons_succ, i64_w, i32_w]
      rfl
    refine pure_ (i := 10) (N := some 31) (v := ?_) (a' := ?_) #[true, true, false, true, true, false, false, true, true, false, true, false, false, false, false, false, false, false, false, false, false, false, false, false, false] rfl rfl (any_of HT_.out (by kernel_rfl)) (fun _ _ _ h => h) (Or.inl ⟨by rfl, ?_⟩) ?_ ?_
    rotate_left
    · intro w'
      go_simp
      with_reducible rfl
    rotate_left
    · simp only [Act.put, List.setIfInBounds_toArray, List.set_cons_zero, List.set_cons_succ, i64_w, i32_w]
      rfl
    refine pure_ (i := 11) (N := some 32) (v := ?_) (a' := ?_) #[true, true, false, true, true, false, false, true, true, false, true, true, false, false, false, false, false, false, false, false, false, false, false, false, false] rfl rfl (any_of HT_.out (by kernel_rfl)) (fun _ _ _ h => h) (Or.inl ⟨by rfl, ?_⟩) ?_ ?_
    rotate_left
    · intro w'
      go_simp
      with_reducible rfl
    rotate_left
    · simp only [Act.put, List.setIfInBounds_toArray, List.set_cons_zero, List.set_cons_succ, i64_w, i32_w]
      rfl
    refine pure_ (i := 14) (N := some 35) (v := ?_) (a' := ?_) #[true, true, false, true, true, false, false, true, true, false, true, true, false, false, true, false, false, false, false, false, false, false, false, false, false] rfl rfl (any_of HT_.out (by kernel_rfl)) (fun _ _ _ h => h) (Or.inl ⟨by rfl, ?_⟩) ?_ ?_
    rotate_left
    · intro w'
      go_simp
      with_reducible rfl
    rotate_left
    · simp only [Act.put, List.setIfInBounds_toArray, List.set_cons_zero, List.set_cons_succ, i64_w, i32_w]
      rfl
    refine pure_ (i := 15) (N := some 36) (v := ?_) (a' := ?_) #[true, true, false, true, true, false, false, true, true, false, true, true, false, false, true, true, false, false, false, false, false, false, false, false, false] rfl rfl (any_of HT_.out (by kernel_rfl)) (fun _ _ _ h => h) (Or.inl ⟨by rfl, ?_⟩) ?_ ?_
    rotate_left
    · intro w'
      go_simp
      with_reducible rfl
    rotate_left
    · simp only [Act.put, List.setIfInBounds_toArray, List.set_cons_zero, List.set_cons_succ, i64_w, i32_w]
      rfl
    refine pure_ (i := 17) (N := some 38) (v := ?_) (a' := ?_) #[true, true, false, true, true, false, false, true, true, false, true, true, false, false, true, true, false, true, false, false, false, false, false, false, false] rfl rfl (any_of HT_.out (by kernel_rfl)) (fun _ _ _ h => h) (Or.inl ⟨by rfl, ?_⟩) ?_ ?_
    rotate_left
    · intro w'
      go_simp
      with_reducible rfl
    rotate_left
    · simp only [Act.put, List.setIfInBounds_toArray, List.set_cons_zero, List.set_cons_succ, i64_w, i32_w]
      rfl
    refine pure_ (i := 18) (N := some 39) (v := ?_) (a' := ?_) #[true, true, false, true, true, false, false, true, true, false, true, true, false, false, true, true, false, true, true, false, false, false, false, false, false] rfl rfl (any_of HT_.out (by kernel_rfl)) (fun _ _ _ h => h) (Or.inl ⟨by rfl, ?_⟩) ?_ ?_
    rotate_left
    · intro w'
      go_simp
      with_reducible rfl
    rotate_left
    · simp only [Act.put, List.setIfInBounds_toArray, List.set_cons_zero, List.set_cons_succ, i64_w, i32_w]
      rfl
    refine take_ (i := 2) (N := some 23) (v := ?_) (a' := ?_) #[true, true, true, true, true, false, false, true, true, false, true, true, false, false, true, true, false, true, true, false, false, false, false, false, false] rfl rfl (take_ofW HT_.out HW_.out (by kernel_rfl)) (fun _ _ _ h => h) (Or.inl ⟨by rfl, ?_⟩) hHeld ?_ ?_
    rotate_left
    · rintro w' ⟨s0, s1, s2, s3, s4, s5⟩
      go_simp
      with_reducible rfl
    rotate_left
    · simp only [Act.put, List.setIfInBounds_toArray, List.set_cons_zero, List.set_cons_succ, i64_w, i32_w]
      rfl
    refine take_ (i := 5) (N := some 26) (v := ?_) (a' := ?_) #[true, true, true, true, true, true, false, true, true, false, true, true, false, false, true, true, false, true, true, false, false, false, false, false, false] rfl rfl (take_ofW HT_.out HW_.out (by kernel_rfl)) (fun _ _ _ h => h) (Or.inl ⟨by rfl, ?_⟩) hHeld ?_ ?_
    rotate_left
    · rintro w' ⟨s0, s1, s2, s3, s4, s5⟩
      go_simp
      with_reducible rfl
    rotate_left
    · simp only [Act.put, List.setIfInBounds_toArray, List.set_cons_zero, List.set_cons_succ, i64_w, i32_w]
      rfl
    refine pure_ (i := 6) (N := some 27) (v := ?_) (a' := ?_) #[true, true, true, true, true, true, true, true, true, false, true, true, false, false, true, true, false, true, true, false, false, false, false, false, false] rfl rfl (any_of HT_.out (by kernel_rfl)) (fun _ _ _ h => h) (Or.inl ⟨by rfl, ?_⟩) ?_ ?_
    rotate_left
    · intro w'
      go_simp
      with_reducible rfl
    rotate_left
    · simp only [Act.put, List.setIfInBounds_toArray, List.set_cons_zero, List.set_cons_succ, i64_w, i32_w]
      rfl
    refine take_ (i := 9) (N := some 30) (v := ?_) (a' := ?_) #[true, true, true, true, true, true, true, true, true, true, true, true, false, false, true, true, false, true, true, false, false, false, false, false, false] rfl rfl (take_ofW HT_.out HW_.out (by kernel_rfl)) (fun _ _ _ h => h) (Or.inl ⟨by rfl, ?_⟩) hHeld ?_ ?_
    rotate_left
    · rintro w' ⟨s0, s1, s2, s3, s4, s5⟩
      go_simp
      with_reducible rfl
    rotate_left
    · simp only [Act.put, List.setIfInBounds_toArray, List.set_cons_zero, List.set_cons_succ, i64_w, i32_w]
      rfl
    refine take_ (i := 12) (N := some 33) (v := ?_) (a' := ?_) #[true, true, true, true, true, true, true, true, true, true, true, true, true, false, true, true, false, true, true, false, false, false, false, false, false] rfl rfl (take_ofW HT_.out HW_.out (by kernel_rfl)) (fun _ _ _ h => h) (Or.inl ⟨by rfl, ?_⟩) hHeld ?_ ?_
    rotate_left
    · rintro w' ⟨s0, s1, s2, s3, s4, s5⟩
      go_simp
      with_reducible rfl
    rotate_left
    · simp only [Act.put, List.setIfInBounds_toArray, List.set_cons_zero, List.set_cons_succ, i64_w, i32_w]
      rfl
    refine pure_ (i := 13) (N := some 34) (v := ?_) (a' := ?_) #[true, true, true, true, true, true, true, true, true, true, true, true, true, true, true, true, false, true, true, false, false, false, false, false, false] rfl rfl (any_of HT_.out (by kernel_rfl)) (fun _ _ _ h => h) (Or.inl ⟨by rfl, ?_⟩) ?_ ?_
    rotate_left
    · intro w'
      go_simp
      with_reducible rfl
    rotate_left
    · simp only [Act.put, List.setIfInBounds_toArray, List.set_cons_zero, List.set_cons_succ, i64_w, i32_w]
      rfl
    refine take_ (i := 16) (N := some 37) (v := ?_) (a' := ?_) #[true, true, true, true, true, true, true, true, true, true, true, true, true, true, true, true, true, true, true, false, false, false, false, false, false] rfl rfl (take_ofW HT_.out HW_.out (by kernel_rfl)) (fun _ _ _ h => h) (Or.inl ⟨by rfl, ?_⟩) hHeld ?_ ?_
    rotate_left
    · rintro w' ⟨s0, s1, s2, s3, s4, s5⟩
      go_simp
      with_reducible rfl
    rotate_left
    · simp only [Act.put, List.setIfInBounds_toArray, List.set_cons_zero, List.set_cons_succ, i64_w, i32_w]
      rfl
    refine take_ (i := 19) (N := some 40) (v := ?_) (a' := ?_) #[true, true, true, true, true, true, true, true, true, true, true, true, true, true, true, true, true, true, true, true, false, false, false, false, false] rfl rfl (take_ofW HT_.out HW_.out (by kernel_rfl)) (fun _ _ _ h => h) (Or.inl ⟨by rfl, ?_⟩) hHeld ?_ ?_
    rotate_left
    · rintro w' ⟨s0, s1, s2, s3, s4, s5⟩
      go_simp
      with_reducible rfl
    rotate_left
    · simp only [Act.put, List.setIfInBounds_toArray, List.set_cons_zero, List.set_cons_succ, i64_w, i32_w]
      rfl
    refine pure_ (i := 20) (N := some 41) (v := ?_) (a' := ?_) #[true, true, true, true, true, true, true, true, true, true, true, true, true, true, true, true, true, true, true, true, true, false, false, false, false] rfl rfl (any_of HT_.out (by kernel_rfl)) (fun _ _ _ h => h) (Or.inl ⟨by rfl, ?_⟩) ?_ ?_
    rotate_left
    · intro w'
      go_simp
      with_reducible rfl
    rotate_left
    · simp only [Act.put, List.setIfInBounds_toArray, List.set_cons_zero, List.set_cons_succ, i64_w, i32_w]
      rfl
    refine one_ (i := 21) (N := some 42) #[true, true, true, true, true, true, true, true, true, true, true, true, true, true, true, true, true, true, true, true, true, true, false, false, false] rfl rfl (one_of HT_.out (by kernel_rfl)) (by decide) (fun K hK => ?_)
    refine Kd.R_lit_step (Kd.int .i64) _ 3 ?hg (N := 42) ?hd (xs := ([wrap64 ((rd t271 0) * (rd t276 0)), wrap64 ((rd t271 1) * (rd t276 1)), wrap64 ((rd t271 2) * (rd t276 2))] : List Int)) (inner := [.int .i64 (wrap64 ((rd t271 0) * (rd t276 0))), .int .i64 (wrap64 ((rd t271 1) * (rd t276 1))), .int .i64 (wrap64 ((rd t271 2) * (rd t276 2)))]) (ok := fun _ => True) (okp := fun _ => True) ?hr ?hp (fun _ hk => hk) trivial (Below.refl _ _) (Nat.le_refl _) (by simp) ?_; (case hd => rfl); (case hg => rfl); (case hr => first | (go_simp; done) | (go_simp; rfl)); (case hp => exact (Reps.one (show Kd.M (Kd.int .i64) _ _ _ (wrap64 ((rd t271 0) * (rd t276 0))) [.int .i64 (wrap64 ((rd t271 0) * (rd t276 0)))] from rfl) (Reps.one (show Kd.M (Kd.int .i64) _ _ _ (wrap64 ((rd t271 1) * (rd t276 1))) [.int .i64 (wrap64 ((rd t271 1) * (rd t276 1)))] from rfl) (Reps.one (show Kd.M (Kd.int .i64) _ _ _ (wrap64 ((rd t271 2) * (rd t276 2))) [.int .i64 (wrap64 ((rd t271 2) * (rd t276 2)))] from rfl) (Reps.none _ _)))))
    intro v287 w18 ho19 hb hg_ hnew_; have HS0_ := (hb.cell (World.block_lt_of_cell? _ _ (hHeld.1))).trans (hHeld.1); have HS1_ := (hb.cell (World.block_lt_of_cell? _ _ (hHeld.2.1))).trans (hHeld.2.1); have HS2_ := (hb.cell (World.block_lt_of_cell? _ _ (hHeld.2.2.1))).trans (hHeld.2.2.1); have HS3_ := (hb.cell (World.block_lt_of_cell? _ _ (hHeld.2.2.2.1))).trans (hHeld.2.2.2.1); have HS4_ := (hb.cell (World.block_lt_of_cell? _ _ (hHeld.2.2.2.2.1))).trans (hHeld.2.2.2.2.1); have HS5_ := (hb.cell (World.block_lt_of_cell? _ _ (hHeld.2.2.2.2.2))).trans (hHeld.2.2.2.2.2); clear hg_ hnew_
    (first | rw [← Ny286.out] at ho19 | (simp only [Int.reduceToNat] at ho19; rw [← Ny286.out] at ho19))
    have HO288 := Aside0.mk (Kd.R_lower (Kd.R_new' (Kd.R_new' (Kd.R_new' ho19 (Kd.R_lt (U HO273.out))) (Kd.R_lt (U HO275.out))) (Kd.R_lt (U HO279.out))) (below_size BU)); replace HO273 := Aside0.mk (Kd.R_elder' (U HO273.out) (Kd.R_base ho19) hb); replace HO275 := Aside0.mk (Kd.R_elder' (U HO275.out) (Kd.R_base ho19) hb); replace HO279 := Aside0.mk (Kd.R_elder' (U HO279.out) (Kd.R_base ho19) hb); replace HB := BS hb; clear hb ho19; obtain ⟨Ao20, co20, eo20⟩ := Kd.R_slice HO288.out
    (first | subst eo20 | (injection eo20 with f1_ f2_ f3_; have f4_ := f1_.symm; have f5_ := f3_.symm; clear f1_ f2_ f3_; subst f4_; subst f5_))
    refine hK.out _ _ ⟨HS0_, HS1_, HS2_, HS3_, HS4_, HS5_⟩ (fun hHeld => ?_)
    clear hK K
    refine norm_ (a' := ?_) ?_ ?_
    rotate_left
    · show Act.put _ (some 42) _ = _
      simp only [Act.put, List.setIfInBounds_toArray, List.set_cons_zero, List.set_cons_succ, i64_w, i32_w]
      rfl
    refine one_ (i := 22) (N := some 43) #[true, true, true, true, true, true, true, true, true, true, true, true, true, true, true, true, true, true, true, true, true, true, true, false, false] rfl rfl (one_of HT_.out (by kernel_rfl)) (by decide) (fun K hK => ?_)
    refine goes_ Try.func48 (by kernel_rfl) rfl #[.slice Ao20 y286.length co20] (by rfl) rfl rfl (by (try simp only [List.map_toArray, List.map_cons, List.map_nil]); first | done | rfl | (simp only [List.length_drop, List.length_take]; rfl)) ?_
    with_reducible refine (spec_l5Plain.calls k _ _ y286 t289 _ ?side1 ?side2 A11.out).mono ?_
    (case side1 => exact U ((Kd.R_reads' HO288.out).2.2))
    (case side2 => exact (Kd.R_reads' HO288.out).2.1)
    rintro e w21 ⟨v290, rfl, ho0, hb⟩; have HS0_ := (hb.cell (World.block_lt_of_cell? _ _ (hHeld.1))).trans (hHeld.1); have HS1_ := (hb.cell (World.block_lt_of_cell? _ _ (hHeld.2.1))).trans (hHeld.2.1); have HS2_ := (hb.cell (World.block_lt_of_cell? _ _ (hHeld.2.2.1))).trans (hHeld.2.2.1); have HS3_ := (hb.cell (World.block_lt_of_cell? _ _ (hHeld.2.2.2.1))).trans (hHeld.2.2.2.1); have HS4_ := (hb.cell (World.block_lt_of_cell? _ _ (hHeld.2.2.2.2.1))).trans (hHeld.2.2.2.2.1); have HS5_ := (hb.cell (World.block_lt_of_cell? _ _ (hHeld.2.2.2.2.2))).trans (hHeld.2.2.2.2.2)
    refine ⟨_, rfl, ?_⟩
    have HO291 := Aside0.mk (Kd.R_lower (Kd.R_new' (Kd.R_new' (Kd.R_new' (Kd.R_new' ho0 (Kd.R_lt (U HO273.out))) (Kd.R_lt (U HO275.out))) (Kd.R_lt (U HO279.out))) (Kd.R_lt (U HO288.out))) (below_size BU)); replace HO273 := Aside0.mk (Kd.R_elder' (U HO273.out) (Kd.R_base ho0) hb); replace HO275 := Aside0.mk (Kd.R_elder' (U HO275.out) (Kd.R_base ho0) hb); replace HO279 := Aside0.mk (Kd.R_elder' (U HO279.out) (Kd.R_base ho0) hb); replace HO288 := Aside0.mk (Kd.R_elder' (U HO288.out) (Kd.R_base ho0) hb); replace HB := BS hb; (try clear hb); (try clear hb2); (try clear hk); (try clear hi); (try clear ho0)
    refine hK.out _ _ ⟨HS0_, HS1_, HS2_, HS3_, HS4_, HS5_⟩ (fun hHeld => ?_)
    clear hK K
    refine norm_ (a' := ?_) ?_ ?_
    rotate_left
    · show Act.put _ (some 43) _ = _
      simp only [Act.put, List.setIfInBounds_toArray, List.set_cons_zero, List.set_cons_succ, i64_w, i32_w]
      rfl
    refine pure_ (i := 23) (N := some 2) (v := ?_) (a' := ?_) #[true, true, true, true, true, true, true, true, true, true, true, true, true, true, true, true, true, true, true, true, true, true, true, true, false] rfl rfl (any_of HT_.out (by kernel_rfl)) (fun _ _ _ h => h) (Or.inl ⟨by rfl, ?_⟩) ?_ ?_
    rotate_left
    · intro w'
      go_simp
      with_reducible rfl
    rotate_left
    · simp only [Act.put, List.setIfInBounds_toArray, List.set_cons_zero, List.set_cons_succ, i64_w, i32_w]
      rfl
    refine pure_ (i := 24) (N := some 3) (v := ?_) (a' := ?_) #[true, true, true, true, true, true, true, true, true, true, true, true, true, true, true, true, true, true, true, true, true, true, true, true, true] rfl rfl (any_of HT_.out (by kernel_rfl)) (fun _ _ _ h => h) (Or.inl ⟨by rfl, ?_⟩) ?_ ?_
    rotate_left
    · intro w'
      go_simp
      with_reducible rfl
    rotate_left
    · simp only [Act.put, List.setIfInBounds_toArray, List.set_cons_zero, List.set_cons_succ, i64_w, i32_w]
      rfl
    refine done_ (done_of HT_.out (by kernel_rfl)) ?_
    try go_wp2
    go_ret2
    exact ⟨_, eR, Kd.RM HO291.out (fun _ hk => trivial), BU⟩
  replace c4 := Bool.eq_false_iff.mpr c4; subst c4; replace H := ifF H; obtain ⟨y292, hy292⟩ : ∃ y_ : List Int, y_ = (([] : List Int)) := ⟨_, rfl⟩; replace H : (some (y292, false)) = some (r1, r2) := rH hy292 H; have Ny292 := Aside0.mk hy292; clear hy292; simp only [Option.some.injEq, Prod.mk.injEq] at H; obtain ⟨rfl, rfl⟩ := H; go_enter Try.func68, Try.ntmps68
  go_wp2_with (first | ((with_reducible refine gate_callee (f := 70) rfl ?_); refine goesK (some 10) Try.func70 #[.slice A0 l0.length c0] ?_; (with_reducible refine (spec_l5Normal.calls k _ _ l0 t270 t271 _ ?side1 ?side2 A2.out).mono ?_); (case side1 => exact U HR0.out); (case side2 => exact HC0.out); rintro e w22 ⟨v272, v274, rfl, ho0, ho1, hb⟩; refine ⟨_, rfl, ?_⟩; have HO273 := Aside0.mk (Kd.R_lower ho0 (below_size BU)); have HO275 := Aside0.mk (Kd.R_lower ho1 (below_size BU)); replace HB := BS hb; (try clear hb); (try clear ho0); (try clear ho1); obtain ⟨Ao23, co23, eo23⟩ := Kd.R_slice HO273.out; subst eo23) | ((with_reducible refine gate_callee (f := 71) rfl ?_); refine goesK (some 15) Try.func71 #[.slice Ao23 t270.length co23] ?_; (with_reducible refine (spec_l5Search.calls k _ _ t270 t276 false _ ?side1 ?side2 A3.out).mono ?_); (case side1 => exact U ((Kd.R_reads' HO273.out).2.2)); (case side2 => exact (Kd.R_reads' HO273.out).2.1); rintro e w24 ⟨v278, rfl, ho0, hb⟩; refine ⟨_, rfl, ?_⟩; have HO279 := Aside0.mk (Kd.R_lower (Kd.R_new' (Kd.R_new' ho0 (Kd.R_lt (U HO273.out))) (Kd.R_lt (U HO275.out))) (below_size BU)); replace HO273 := Aside0.mk (Kd.R_elder' (U HO273.out) (Kd.R_base ho0) hb); replace HO275 := Aside0.mk (Kd.R_elder' (U HO275.out) (Kd.R_base ho0) hb); replace HB := BS hb; (try clear hb); (try clear ho0)) | ((with_reducible refine gate_dst (N := 20) rfl ?_); refine Kd.R_lit (Kd.int .i64) _ 3 ?hg (N := 20) ?hd (xs := ([] : List Int)) (inner := []) (ok := fun _ => True) (okp := fun _ => True) ?hr ?hp (fun _ hk => hk) trivial (Below.refl _ _) (Nat.le_refl _) (by simp) ?_; (case hd => rfl); (case hg => rfl); (case hr => first | (go_simp; done) | (go_simp; rfl)); (case hp => exact (Reps.none _ _)); intro v293 w25 ho26 hb hg_ hnew_; clear hg_ hnew_; (first | rw [← Ny292.out] at ho26 | (simp only [Int.reduceToNat] at ho26; rw [← Ny292.out] at ho26)); have HO294 := Aside0.mk (Kd.R_lower (Kd.R_new' (Kd.R_new' (Kd.R_new' ho26 (Kd.R_lt (U HO273.out))) (Kd.R_lt (U HO275.out))) (Kd.R_lt (U HO279.out))) (below_size BU)); replace HO273 := Aside0.mk (Kd.R_elder' (U HO273.out) (Kd.R_base ho26) hb); replace HO275 := Aside0.mk (Kd.R_elder' (U HO275.out) (Kd.R_base ho26) hb); replace HO279 := Aside0.mk (Kd.R_elder' (U HO279.out) (Kd.R_base ho26) hb); replace HB := BS hb; clear hb ho26))
  go_ret2
  exact ⟨_, eR, Kd.RM HO294.out (fun _ hk => trivial), BU⟩

end Go.Proofs.Ytpaohkhmhdhibaa.PFnOther
