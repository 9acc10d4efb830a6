-- Written by a program of this session (wip/print2.py): the functions that the law reaches, plain, and the walks.
import Derived.Test.YtpjgcjkodmkemaaPFnZerox0
import Derived.Test.YtpjgcjkodmkemaaPFnZerox8
import Derived.Test.YtpjgcjkodmkemaaPFnZerox9
import Derived.Test.YtpjgcjkodmkemaaPFnZerox10
import Derived.Test.YtpjgcjkodmkemaaPFnZerox12
import Derived.Test.YtpjgcjkodmkemaaPFnZerox13
namespace Go.Proofs.Ytpjgcjkodmkemaa.PFnZero
open Go.RowKit Go.Proofs.YtpjgcjkodmkemaaW.PrintWords Go.Proofs.YtpjgcjkodmkemaaW.PrintLast Go.Proofs.YtpjgcjkodmkemaaW.PrintMore
attribute [local go_sem] max2_int min2_int max_two min_two max_three min_three max_four min_four   -- for this text's walks alone
set_option linter.unusedVariables false
set_option linter.unusedSimpArgs false

/-! ### impl_ZeroModulo: a form of at most three terms, a prime, an exponent of 1 to 5, a power of at most 32 (the numbers are those of seat a3) -/
set_option maxHeartbeats 4000000 in
set_option maxRecDepth 100000 in
theorem impl_size.still (a0 : Int) (r : Int) (w : World) (h : impl_size.f a0 = some r) :
    Calls Try.prog 48 #[.int .i64 a0] w fun e w' => e = .returned (.int .i64 r) ∧ Drawn0 w w' := by
  unfold impl_size.f at h; have H := h; clear h; obtain ⟨ji2, hji2⟩ : ∃ j_ : Int, (mx a0 (wrap64 (-a0))) = j_ := ⟨_, rfl⟩
  replace H : (some ji2) = some r := by first | (rw [hji2] at H; exact H) | (simp only [hji2] at H ⊢; exact H)
  have hji2_ : (if a0 < (wrap64 (-a0)) then (wrap64 (-a0)) else a0) = ji2 := hji2; obtain rfl := Option.some.inj H; go_enter Try.func48, Try.ntmps48
  go_wp2
  go_ret
  exact ⟨by first | rfl | (simp [errW_none, errW_some] <;> rfl) | (simp only [← hji2]; first | rfl | (simp [errW_none, errW_some] <;> rfl)) | (simp [*, errW_none, errW_some] <;> rfl), by repeat (first | exact Drawn0.refl _ | apply Drawn0.step)⟩
set_option maxHeartbeats 8000000 in
set_option maxRecDepth 100000 in
theorem impl_gcd.still (k : Nat) (A0 : Option Addr) (c0 : Nat) (l0 : List Int) (r : Int) (w : World) (hr0 : Kd.C (Kd.int .i64) w A0 l0.length l0) (hc0 : l0.length ≤ c0) (h : impl_gcd.f k l0 = some r) :
    Calls Try.prog 25 #[.slice A0 l0.length c0] w fun e w' => e = .returned (.int .i64 r) ∧ Drawn0 w w' := by
  have HR0 := Aside0.mk hr0; have HC0 := Aside0.mk hc0; clear hr0 hc0; unfold impl_gcd.f at h; have H := h; clear h; have H' := Aside0.mk H; clear H; go_enter Try.func25, Try.ntmps25
  go_wp2
  repeat (go_quiet (fail); try go_wp2)
  go_loopg [3, 8] k (fun kq v3 v8 w' => ∃ (x3_1 : Int) (x8_1 : Int), v3 = .int .i64 x3_1 ∧ v8 = .int .i64 x8_1 ∧ Aside0 (impl_gcd.l0 kq x3_1 l0 (l0.length : Int) x8_1 = some r) ∧ Aside0 (kq ≤ k) ∧ Drawn0 w w')
  case atStart => exact ⟨(0), (0), sR, sR, H', ⟨Nat.le_refl _⟩, by repeat (first | exact Drawn0.refl _ | apply Drawn0.step)⟩
  case round =>
    clear H'; obtain ⟨x3_1, x8_1, rfl, rfl, HA, HK1, ⟨m1, rfl⟩⟩ := hrel; cases gk with
    | zero => exact absurd HA.out (by simp [impl_gcd.l0])
    | succ k1 =>
      have H := HA.out; clear HA; simp only [impl_gcd.l0] at H
      by_cases c2 : x8_1 < (l0.length : Int)
      · rw [if_pos c2] at H
        have c2b0 : decide (x8_1 < (l0.length : Int)) = true := decide_eq_true c2; clear c2; obtain ⟨c3, H⟩ := ifN H; have c3b0 : decide (0 ≤ x8_1) = true := decide_eq_true c3; clear c3; obtain ⟨c4, H⟩ := ifN H; have c4b0 : decide (x8_1 < (l0.length : Int)) = true := decide_eq_true c4; clear c4; obtain ⟨t377, A5, H⟩ := bnd H; have H' := Aside0.mk H; clear H; have p376 : 0 ≤ (x8_1 : Int) := oD; have q376 : x8_1 < (l0.length : Int) := oD; obtain ⟨ad376, e376, hx376_0⟩ := Kd.at_int HR0.out x8_1 p376 q376; cases e376; replace p376 := eq_true p376; replace q376 := eq_true q376
        go_wp2_with (first | (go_at_call 48; (with_reducible refine (impl_size.still (rd l0 x8_1) t377 _ A5.out).mono ?_); rintro e w' ⟨rfl, ⟨nd, rfl⟩⟩))
        repeat (go_quiet (first | (go_at_call 48; (with_reducible refine (impl_size.still (rd l0 x8_1) t377 _ A5.out).mono ?_); rintro e w' ⟨rfl, ⟨nd, rfl⟩⟩)); try go_wp2_with (first | (go_at_call 48; (with_reducible refine (impl_size.still (rd l0 x8_1) t377 _ A5.out).mono ?_); rintro e w' ⟨rfl, ⟨nd, rfl⟩⟩)))
        go_loopg [3, 5] k1 (fun kq v3 v5 w' => ∃ (x3_2 : Int) (x5_2 : Int), v3 = .int .i64 x3_2 ∧ v5 = .int .i64 x5_2 ∧ Aside0 (impl_gcd.l1 kq x3_2 x5_2 l0 (l0.length : Int) x8_1 = some r) ∧ Aside0 (kq ≤ k1) ∧ Drawn0 w w')
        case atStart => exact ⟨(x3_1), (t377), sR, sR, H', ⟨Nat.le_refl _⟩, by repeat (first | exact Drawn0.refl _ | apply Drawn0.step)⟩
        case round =>
          clear H'; (try clear c2); (try clear c2b0); (try clear c3); (try clear c3b0); (try clear c4); (try clear c4b0); (try clear hx376_0); (try clear p376); (try clear q376); obtain ⟨x3_2, x5_2, rfl, rfl, HA, HK2, ⟨m2, rfl⟩⟩ := hrel; cases gk with
          | zero => exact absurd HA.out (by simp [impl_gcd.l1])
          | succ k2 =>
            have H := HA.out; clear HA; simp only [impl_gcd.l1] at H
            by_cases c7 : x5_2 = 0
            · rw [if_pos c7] at H
              have c7b0 : (x5_2 == 0) = true := beq_iff_eq.mpr c7; have c7b1 : (x5_2 != 0) = false := bne_eq_false_iff_eq.mpr c7; clear c7; have H' := Aside0.mk H; clear H
              go_wp2
              repeat (go_quiet (fail); try go_wp2)
              go_roundg k2
              case measure => have := HK1.out; have := HK2.out; omega
              case rel => exact ⟨(x3_2), (wrap64 (x8_1 + 1)), sR, sR, H', ⟨by have := HK1.out; have := HK2.out; omega⟩, by repeat (first | exact Drawn0.refl _ | apply Drawn0.step)⟩
            rw [if_neg c7] at H; have c7b0 : (x5_2 == 0) = false := beq_eq_false_iff_ne.mpr c7; have c7b1 : (x5_2 != 0) = true := bne_iff_ne.mpr c7; have H' := Aside0.mk H; clear H
            go_wp2
            repeat (go_quiet (fail); try go_wp2)
            go_roundg k2
            case measure => have := HK1.out; have := HK2.out; omega
            case rel => exact ⟨(x5_2), (Int.tmod x3_2 x5_2), sR, sR, H', ⟨by have := HK1.out; have := HK2.out; omega⟩, by repeat (first | exact Drawn0.refl _ | apply Drawn0.step)⟩
      rw [if_neg c2] at H; have c2b0 : decide (x8_1 < (l0.length : Int)) = false := decide_eq_false c2; clear c2; obtain rfl := Option.some.inj H
      go_wp2
      repeat (go_quiet (fail); try go_wp2)
      go_ret
      exact ⟨eR, by repeat (first | exact Drawn0.refl _ | apply Drawn0.step)⟩

/-- So many values, from an integer on, till one of them serves. -/
def modL (f : Int → Option Bool) : Nat → Int → Option Bool
  | 0, _ => some false
  | c + 1, x => (f x).bind fun b => if b = true then some true else modL f c (x + 1)
/-- All vectors that go on from some integers. -/
def modR (t : List Int → Option Bool) (m : Nat) : Nat → List Int → Option Bool
  | 0, h => t h
  | r + 1, h => modL (fun x => modR t m r (h ++ [x])) m 0
/-- The variables of impl.ZeroModulo, and the vector. -/
structure MS (gv gp gf gm gt ga cv : Nat) (A0 : Option Addr) (c0 : Nat) (l0 : List Int) (p m : Int) (n : Nat) (W : World) (vs : List Int) : Prop where
  bv : W.heap[gv]? = some (.cells #[.slice (some ⟨ga, 0, none⟩) n cv] 23 (0, 0))
  bp : W.heap[gp]? = some (.cells #[.int .i64 p] 3 (0, 0))
  bf : W.heap[gf]? = some (.cells #[.slice A0 l0.length c0] 23 (0, 0))
  bm : W.heap[gm]? = some (.cells #[.int .i64 m] 3 (0, 0))
  bt : W.heap[gt]? = some (.cells #[.func (.func 34) #[] #[.pointer (some ⟨gv, 0, none⟩), .pointer (some ⟨gp, 0, none⟩), .pointer (some ⟨gf, 0, none⟩), .pointer (some ⟨gm, 0, none⟩), .pointer (some ⟨gt, 0, none⟩)]] 46 (0, 0))
  row : Kd.R (Kd.int .i64) 3 W 0 (fun _ => True) (.slice (some ⟨ga, 0, none⟩) n cv) vs
theorem MS.len {gv gp gf gm gt ga cv : Nat} {A0 : Option Addr} {c0 : Nat} {l0 : List Int} {p m : Int} {n : Nat} {W : World} {vs : List Int} (h : MS gv gp gf gm gt ga cv A0 c0 l0 p m n W vs) : n = vs.length := (Kd.R_reads' h.row).1
theorem MS.below {gv gp gf gm gt ga cv : Nat} {A0 : Option Addr} {c0 : Nat} {l0 : List Int} {p m : Int} {n : Nat} {W W' : World} {vs : List Int} (h : MS gv gp gf gm gt ga cv A0 c0 l0 p m n W vs) (hb : Below W.heap.size W W') : MS gv gp gf gm gt ga cv A0 c0 l0 p m n W' vs :=
  ⟨blk_below h.bv hb, blk_below h.bp hb, blk_below h.bf hb, blk_below h.bm hb, blk_below h.bt hb, Kd.R_below h.row hb⟩
theorem MS.put {gv gp gf gm gt ga cv : Nat} {A0 : Option Addr} {c0 : Nat} {l0 : List Int} {p m : Int} {n : Nat} {W : World} {vs : List Int} (h : MS gv gp gf gm gt ga cv A0 c0 l0 p m n W vs) (hn : gv ≠ ga ∧ gp ≠ ga ∧ gf ≠ ga ∧ gm ≠ ga ∧ gt ≠ ga) (j : Nat) (x : Int) : MS gv gp gf gm gt ga cv A0 c0 l0 p m n (W.setCell ⟨ga, j, none⟩ (.int .i64 x)) (vs.set j x) :=
  ⟨blk_far h.bv hn.1 _, blk_far h.bp hn.2.1 _, blk_far h.bf hn.2.2.1 _, blk_far h.bm hn.2.2.2.1 _, blk_far h.bt hn.2.2.2.2 _, (Kd.R_putg h.row (j : Int) x).1⟩
theorem mod_keep {gv gp gf gm gt ga cv : Nat} {A0 : Option Addr} {c0 : Nat} {l0 : List Int} {p m : Int} {n : Nat} {W : World} {vs : List Int} (h : MS gv gp gf gm gt ga cv A0 c0 l0 p m n W vs) : W.cell? ⟨gv, 0, none⟩ = some (.slice (some ⟨ga, 0, none⟩) n cv) ∧ W.cell? ⟨gp, 0, none⟩ = some (.int .i64 p) ∧ W.cell? ⟨gf, 0, none⟩ = some (.slice A0 l0.length c0) ∧ W.cell? ⟨gm, 0, none⟩ = some (.int .i64 m) :=
  ⟨cell_of_one h.bv, cell_of_one h.bp, cell_of_one h.bf, cell_of_one h.bm⟩
theorem mrd_take {vs : List Int} {j : Nat} (hj : j < vs.length) : vs.take (j + 1) = vs.take j ++ [rd vs (j : Int)] := by
  rw [List.take_add_one, List.getElem?_eq_getElem hj]; unfold rd; simp [hj]
/-- What the closure asks of a vector. -/
def impl_ZeroModulo.t (k : Nat) (p m : Int) (form h : List Int) : Option Bool :=
  (impl_gcd.f k h).bind fun g => if Int.tmod g p = 0 then some false else ((impl_pair.f k form h h).bind fun q => some (Int.tmod q m == 0))
set_option maxHeartbeats 4000000 in
set_option maxRecDepth 100000 in
theorem modulo_try (k : Nat) (A0 : Option Addr) (c0 : Nat) (l0 : List Int) (p : Int) (m : Nat) (w : World) (hr0 : Kd.C (Kd.int .i64) w A0 l0.length l0) (hc0 : l0.length ≤ c0) (hp0 : p ≠ 0) (hm0 : (m : Int) ≠ 0) (hm : m ≤ 1000)
    (gv gp gf gm gt ga cv n : Nat) (hn : n ≤ 1000) (hne : gv ≠ ga ∧ gp ≠ ga ∧ gf ≠ ga ∧ gm ≠ ga ∧ gt ≠ ga) (hga : w.heap.size ≤ ga) :
    ∀ (r j : Nat) (a : Int) (W : World) (vs : List Int) (b : Bool), a = (j : Int) → j + r = n → MS gv gp gf gm gt ga cv A0 c0 l0 p m n W vs → Below w.heap.size w W → modR (impl_ZeroModulo.t k p m l0) m r (vs.take j) = some b →
      Calls Try.prog 34 #[.int .i64 a, .pointer (some ⟨gv, 0, none⟩), .pointer (some ⟨gp, 0, none⟩), .pointer (some ⟨gf, 0, none⟩), .pointer (some ⟨gm, 0, none⟩), .pointer (some ⟨gt, 0, none⟩)] W fun e W' =>
        e = .returned (.bool b) ∧ (∃ vs', vs'.take j = vs.take j ∧ MS gv gp gf gm gt ga cv A0 c0 l0 p m n W' vs') ∧ Below w.heap.size w W' := by
  intro r
  induction r with
  | zero =>
    intro j a W vs b ha hj hV hB hs
    have hl := hV.len
    subst ha
    obtain rfl : j = n := by omega
    rw [List.take_of_length_le (by omega)] at hs
    have hs := (show impl_ZeroModulo.t k p m l0 vs = some b from hs)
    unfold impl_ZeroModulo.t at hs
    obtain ⟨g, AG, H⟩ := bnd hs
    obtain rfl := hl
    have HR0 := Aside0.mk hr0; have HC0 := Aside0.mk hc0
    have HV := Aside0.mk hV; have HB := Aside0.mk hB; have F0 := Aside0.mk (Below.refl W.heap.size W)
    have HVC := Aside0.mk (Kd.R_reads' hV.row).2.2; have HVN := Aside0.mk (Kd.R_reads' hV.row).2.1
    have c1 := cell_of_one hV.bv
    have cj : ((vs.length : Int) == (vs.length : Int)) = true := beq_self_eq_true _
    clear hV hB hj hs hr0 hc0
    have c2 := cell_of_one HV.out.bp; have c3 := cell_of_one HV.out.bf; have c4 := cell_of_one HV.out.bm
    by_cases cg : Int.tmod g p = 0
    · rw [if_pos cg] at H; obtain rfl := Option.some.inj H; clear H
      have cgb : (Int.tmod g p == 0) = true := beq_iff_eq.mpr cg; have cgn : (Int.tmod g p != 0) = false := (by rw [bne, cgb]; rfl)
      go_enter Try.func34, Try.ntmps34
      go_wp2
      go_quiet (first | (go_at_call 25; exact Calls.quiet_of ((impl_gcd.still k (some ⟨ga, 0, none⟩) cv vs g _ (Kd.C_below HVC.out (FU F0)) HVN.out AG.out).mono (fun e w' h => ⟨h.1, h.2.out⟩))))
      go_wp2
      go_ret
      exact ⟨by first | rfl | (simp [*]; done), ⟨vs, rfl, HV.out.below (FU F0)⟩, below_step HB.out (FU F0)⟩
    rw [if_neg cg] at H; have cgb : (Int.tmod g p == 0) = false := beq_eq_false_iff_ne.mpr cg; have cgn : (Int.tmod g p != 0) = true := (by rw [bne, cgb]; rfl)
    obtain ⟨q, AQ, H⟩ := bnd H; obtain rfl := Option.some.inj H; clear H
    go_enter Try.func34, Try.ntmps34
    go_wp2
    go_quiet (first | (go_at_call 25; exact Calls.quiet_of ((impl_gcd.still k (some ⟨ga, 0, none⟩) cv vs g _ (Kd.C_below HVC.out (FU F0)) HVN.out AG.out).mono (fun e w' h => ⟨h.1, h.2.out⟩))) | (go_at_call 26; exact Calls.quiet_of ((impl_pair.calls k A0 c0 l0 (some ⟨ga, 0, none⟩) cv vs (some ⟨ga, 0, none⟩) cv vs q _ (Kd.C_below HR0.out (below_step HB.out (FU F0))) HC0.out (Kd.C_below HVC.out (FU F0)) HVN.out (Kd.C_below HVC.out (FU F0)) HVN.out AQ.out).mono (fun e w' h => ⟨h.1, h.2.out⟩))))
    go_wp2
    go_ret
    exact ⟨by first | rfl | (simp [*]; done), ⟨vs, rfl, HV.out.below (FU F0)⟩, below_step HB.out (FU F0)⟩
  | succ r ih =>
    intro j a W vs b ha hj hV hB hs
    have hl := hV.len
    subst ha
    have hjl : j < vs.length := by omega
    obtain ⟨hx0, hf0⟩ := Kd.R_celln 0 hV.row (j : Int) (by omega) (by omega)
    have hx0 : W.cell? ⟨ga, j, none⟩ = some (.int .i64 (rdOf 0 vs (j : Int))) := hx0
    have hf0 : W.frozen? ⟨ga, j, none⟩ = false := hf0
    have HP := Aside0.mk (hV.put hne j 0)
    have HB := Aside0.mk (below_set hB hga : Below w.heap.size w (W.setCell ⟨ga, j, none⟩ (.int .i64 0))); have HS := Aside0.mk (show modL (fun x => modR (impl_ZeroModulo.t k p m l0) m r (vs.take j ++ [x])) m 0 = some b from hs)
    have c1 := cell_of_one hV.bv; have c4 := cell_of_one hV.bm
    have cb : ((j : Int) == (n : Int)) = false := beq_eq_false_iff_ne.mpr (by omega)
    have q1 : (0 ≤ (j : Int)) = True := eq_true (by omega); have q2 : ((j : Int) < (n : Int)) = True := eq_true (by omega)
    have HL := Aside0.mk hl; have HJ := Aside0.mk hj; have HJL := Aside0.mk hjl
    clear hV hB hs hl hj hjl
    go_enter Try.func34, Try.ntmps34
    go_wp2
    go_loopg [] m (fun kq W1 => ∃ (x : Int) (vs1 : List Int), Aside0 (x + kq = m) ∧ Aside0 (0 ≤ x) ∧ Aside0 (MS gv gp gf gm gt ga cv A0 c0 l0 p m n W1 vs1) ∧ Aside0 (vs1.take j = vs.take j) ∧ Aside0 (rd vs1 (j : Int) = x) ∧ Aside0 (Below w.heap.size w W1) ∧ Aside0 (modL (fun x => modR (impl_ZeroModulo.t k p m l0) m r (vs.take j ++ [x])) kq x = some b))
    case atStart =>
      exact ⟨0, vs.set j 0, ⟨by omega⟩, ⟨Int.le_refl _⟩, HP, ⟨by rw [List.take_set_of_le (Nat.le_refl _)]⟩, ⟨by have := HJL.out; unfold rd; simp [this]⟩, HB, HS⟩
    case round =>
      clear hx0 hf0 c1 c4 HP HB HS
      obtain ⟨x, vs1, HX, HX0, HV1, HT1, HR, HB1, HS1⟩ := hrel
      have hl1 := HV1.out.len
      have hj1 : j < vs1.length := by have := HJL.out; have := HL.out; omega
      obtain ⟨hx0, hf0⟩ := Kd.R_celln 0 HV1.out.row (j : Int) (by omega) (by omega)
      have hx0 : wr.cell? ⟨ga, j, none⟩ = some (.int .i64 x) := by have h_ : wr.cell? ⟨ga, j, none⟩ = some (.int .i64 (rd vs1 (j : Int))) := hx0; rw [HR.out] at h_; exact h_
      have hf0 : wr.frozen? ⟨ga, j, none⟩ = false := hf0
      have c1 := cell_of_one HV1.out.bv; have c4 := cell_of_one HV1.out.bm; have c5 := cell_of_one HV1.out.bt
      have LT1 := Aside0.mk hj1; clear hl1 hj1
      cases gk with
      | zero =>
        have cx : decide (x < (m : Int)) = false := decide_eq_false (by have := HX.out; omega)
        have H := HS1.out; simp only [modL] at H; have H := Option.some.inj H; subst H
        go_wp2
        go_quiet (fail)
        go_wp2
        go_ret
        exact ⟨rfl, ⟨vs1, HT1.out, HV1.out.below (FU (Aside0.mk (Below.refl _ _)))⟩, below_step HB1.out (FU (Aside0.mk (Below.refl _ _)))⟩
      | succ c =>
        have cx : decide (x < (m : Int)) = true := decide_eq_true (by have := HX.out; omega)
        have H := HS1.out; clear HS1; simp only [modL] at H; obtain ⟨b2, A2, H⟩ := bnd H
        have HQ := Aside0.mk (fun nq : Nat => ih (j + 1) ((j : Int) + 1) (wr.drewN nq) vs1 b2 (by omega) (by have := HJ.out; omega) (HV1.out.below (pw_below_drewN (Below.refl _ _) nq)) (below_step HB1.out (pw_below_drewN (Below.refl _ _) nq)) (by rw [mrd_take LT1.out, HT1.out, HR.out]; exact A2.out))
        have HN := Aside0.mk H; clear H
        have bj : (j : Int) ≤ 1000 := by have := HJ.out; omega
        cases b2 with
        | true =>
          have HN := Option.some.inj ((if_pos rfl).symm.trans HN.out); subst HN
          go_wp2
          go_quiet (fail)
          go_wp2_with (go_at_call 34; refine (HQ.out _).mono ?_; rintro e w2 ⟨rfl, ⟨vs2, ht2, hV2⟩, hB2⟩; have e2 : vs2.take j = vs.take j := (by rw [mrd_take LT1.out, HT1.out, HR.out, mrd_take (by rw [← hV2.len]; have := HJ.out; omega)] at ht2; exact (List.append_inj' ht2 rfl).1); have HV2 := Aside0.mk hV2; have HT2 := Aside0.mk e2; have HB2 := Aside0.mk hB2; clear ht2 e2 hV2 hB2)
          go_ret
          exact ⟨rfl, ⟨vs2, HT2.out, HV2.out⟩, HB2.out⟩
        | false =>
          have HN := Aside0.mk ((if_neg (fun k => by cases k)).symm.trans HN.out)
          go_wp2
          go_quiet (fail)
          go_wp2_with (go_at_call 34; refine (HQ.out _).mono ?_; rintro e w2 ⟨rfl, ⟨vs2, ht2, hV2⟩, hB2⟩; have e2 : rd vs2 (j : Int) = x ∧ vs2.take j = vs.take j := (by rw [mrd_take LT1.out, HT1.out, HR.out, mrd_take (by rw [← hV2.len]; have := HJ.out; omega)] at ht2; have h1 := List.append_inj' ht2 rfl; exact ⟨by simpa using h1.2, h1.1⟩); have HV2 := Aside0.mk (hV2.put hne j (x + 1)); have HT2 := Aside0.mk e2.2; have HB2 := Aside0.mk (below_set hB2 hga : Below w.heap.size w (w2.setCell ⟨ga, j, none⟩ (.int .i64 (x + 1)))); have LT2 := Aside0.mk (show j < vs2.length by rw [← hV2.len]; have := HJ.out; omega); obtain ⟨hy0, hg0⟩ := Kd.R_celln 0 hV2.row (j : Int) (by omega) (by have := HJ.out; omega); have hy0 : w2.cell? ⟨ga, j, none⟩ = some (.int .i64 x) := (by have h_ : w2.cell? ⟨ga, j, none⟩ = some (.int .i64 (rd vs2 (j : Int))) := hy0; rw [e2.1] at h_; exact h_); have hg0 : w2.frozen? ⟨ga, j, none⟩ = false := hg0; have d3 := cell_of_one hV2.bv; have b1 : x ≤ 1000 := (by have := HX.out; omega); have b2 : -1000 ≤ x := (by have := HX0.out; omega); clear ht2 e2 hV2 hB2)
          go_roundg c
          case measure => omega
          case rel => exact ⟨x + 1, vs2.set j (x + 1), ⟨by have := HX.out; omega⟩, ⟨by have := HX0.out; omega⟩, HV2, ⟨by rw [List.take_set_of_le (Nat.le_refl _)]; exact HT2.out⟩, ⟨by have := LT2.out; unfold rd; simp [this]⟩, HB2, HN⟩
def impl_ZeroModulo.f (k : Nat) (l0 : List Int) (a1 a2 : Int) : Option Bool :=
  (impl_FormValid.f k l0).bind fun t => if t = true then (if 0 < l0.length ∧ l0.length ≤ 3 then ((impl_PrimeIs.f k a1).bind fun q => if q = true then (if 1 ≤ a2 ∧ a2 ≤ 5 then ((impl_power.f k a1 a2).bind fun m => if 1 ≤ m ∧ m ≤ 32 ∧ a1 ≠ 0 then modR (impl_ZeroModulo.t k a1 m l0) m.toNat l0.length [] else none) else none) else none) else none) else none
theorem modL_mono {f g : Int → Option Bool} (h : ∀ x, LeO (f x) (g x)) : ∀ c x, LeO (modL f c x) (modL g c x)
  | 0, _ => LeO.refl _
  | c + 1, x => by unfold modL; exact LeO.bind (h x) (fun b => LeO.ite (LeO.refl _) (modL_mono h c (x + 1)))
theorem modR_mono {f g : List Int → Option Bool} (h : ∀ p, LeO (f p) (g p)) (n : Nat) : ∀ m p, LeO (modR f n m p) (modR g n m p)
  | 0, p => h p
  | m + 1, p => by unfold modR; exact modL_mono (fun x => modR_mono h n m (p ++ [x])) _ _
theorem impl_ZeroModulo.t_mono (k : Nat) (p m : Int) (form h : List Int) : LeO (impl_ZeroModulo.t k p m form h) (impl_ZeroModulo.t (k + 1) p m form h) := by
  unfold impl_ZeroModulo.t
  with_reducible repeat' first | exact impl_gcd.mono _ _ | exact impl_pair.mono _ _ _ _ | exact LeO.refl _ | exact LeO.none _ | refine LeO.ite ?_ ?_ | refine LeO.bind ?_ (fun _ => ?_)
theorem impl_ZeroModulo.mono : ∀ a0 a1 a2 k, LeO (impl_ZeroModulo.f k a0 a1 a2) (impl_ZeroModulo.f (k + 1) a0 a1 a2) := by
  intro a0 a1 a2 k
  unfold impl_ZeroModulo.f
  with_reducible repeat' first | exact impl_FormValid.mono _ _ | exact impl_PrimeIs.mono _ _ | exact impl_power.mono _ _ _ | exact modR_mono (fun p => impl_ZeroModulo.t_mono k _ _ _ p) _ _ _ | exact LeO.refl _ | exact LeO.none _ | refine LeO.ite ?_ ?_ | refine LeO.bind ?_ (fun _ => ?_)
set_option maxHeartbeats 4000000 in
set_option maxRecDepth 100000 in
theorem impl_ZeroModulo.calls (k : Nat) (A0 : Option Addr) (c0 : Nat) (l0 : List Int) (a1 a2 : Int) (r : Bool) (w : World) (hr0 : Kd.C (Kd.int .i64) w A0 l0.length l0) (hc0 : l0.length ≤ c0) (h : impl_ZeroModulo.f k l0 a1 a2 = some r) :
    Calls Try.prog 11 #[.slice A0 l0.length c0, .int .i64 a1, .int .i64 a2] w fun e w' => e = .returned (.bool r) ∧ Below w.heap.size w w' := by
  have HR0 := Aside0.mk hr0; have HC0 := Aside0.mk hc0; clear hr0 hc0; have F0 := Aside0.mk (Below.refl w.heap.size w); unfold impl_ZeroModulo.f at h; have H := h; clear h; obtain ⟨t, AT, H1⟩ := bnd H; clear H; obtain ⟨ht, H2⟩ := ifN H1; clear H1; subst ht; obtain ⟨⟨n0, n3⟩, H3⟩ := ifN H2; clear H2; obtain ⟨q, AQ, H4⟩ := bnd H3; clear H3; obtain ⟨hq, H5⟩ := ifN H4; clear H4; subst hq; obtain ⟨⟨e1, e5⟩, H6⟩ := ifN H5; clear H5; obtain ⟨m0, AM, H7⟩ := bnd H6; clear H6; obtain ⟨⟨m1, m32, hp0⟩, H⟩ := ifN H7; clear H7
  obtain ⟨m, rfl⟩ : ∃ m : Nat, m0 = (m : Int) := ⟨m0.toNat, by omega⟩
  rw [Int.toNat_natCast] at H; have HS := Aside0.mk H; clear H; have hl3 : decide (3 < (l0.length : Int)) = false := decide_eq_false (by omega); have b1 : decide (a2 < 1) = false := decide_eq_false (by omega); have b5 : decide (5 < a2) = false := decide_eq_false (by omega); have b32 : decide (32 < (m : Int)) = false := decide_eq_false (by omega); have N0 := Aside0.mk n0; have N3 := Aside0.mk n3; have M1 := Aside0.mk m1; have M32 := Aside0.mk m32; have P0 := Aside0.mk hp0; clear n0 n3 e1 e5 m1 m32 hp0; go_enter Try.func11, Try.ntmps11
  go_upto_if 36 with (first | ((with_reducible refine gate_dst (N := 3) rfl ?_); refine boxE (N := 3) (cs := #[.slice A0 l0.length c0]) (t := 23) ?_; intro gf hg w1 hbox hb; have BF := Aside0.mk hbox; replace F0 := FS F0 hb; clear hb hbox hg) | ((with_reducible refine gate_dst (N := 4) rfl ?_); refine boxE (N := 4) (cs := #[.int .i64 a1]) (t := 3) ?_; intro gp hg w2 hbox hb; have BP := Aside0.mk hbox; have NFP := NL BF hg; replace BF := bB BF hb; replace F0 := FS F0 hb; clear hb hbox hg; have d3 := cell_of_one BF.out; have d4 := cell_of_one BP.out) | ((with_reducible refine gate_callee (f := 20) rfl ?_); refine goesK (some 11) Try.func20 #[.slice A0 l0.length c0] ?_; (with_reducible refine (impl_FormValid.calls k _ _ l0 _ _ ?side1 ?side2 AT.out).mono ?_); (case side1 => exact Kd.C_below HR0.out (FU F0)); (case side2 => exact HC0.out); rintro e w3 ⟨rfl, hb⟩; refine ⟨_, rfl, ?_⟩; replace BF := bB BF hb; replace BP := bB BP hb; replace F0 := FS F0 hb; clear hb d3 d4; have d3 := cell_of_one BF.out; have d4 := cell_of_one BP.out) | ((with_reducible refine gate_callee (f := 32) rfl ?_); (try (refine gate_guard (by rfl) ?_; dsimp only)); refine goesK (some 20) Try.func32 #[.int .i64 a1] ?_; (with_reducible refine (impl_PrimeIs.calls k a1 _ _ AQ.out).mono ?_); rintro e w' ⟨rfl, ⟨nd, rfl⟩⟩; refine ⟨_, rfl, ?_⟩) | ((with_reducible refine gate_callee (f := 33) rfl ?_); (try (refine gate_guard (by rfl) ?_; dsimp only)); refine goesK (some 34) Try.func33 #[.int .i64 a1, .int .i64 a2] ?_; (with_reducible refine (impl_power.calls k a1 a2 _ _ AM.out).mono ?_); rintro e w' ⟨rfl, ⟨nd, rfl⟩⟩; refine ⟨_, rfl, ?_⟩))
  go_upto_region 4 with (first | ((with_reducible refine gate_callee (f := 33) rfl ?_); refine goesK (some 39) Try.func33 #[.int .i64 a1, .int .i64 a2] ?_; (with_reducible refine (impl_power.calls k a1 a2 _ _ AM.out).mono ?_); rintro e w' ⟨rfl, ⟨nd, rfl⟩⟩; refine ⟨_, rfl, ?_⟩) | ((with_reducible refine gate_dst (N := 7) rfl ?_); refine boxE (N := 7) (cs := #[.int .i64 0]) (t := 3) ?_; intro gm hg w4 hbox hb; have BM := Aside0.mk hbox; have NMF := NL BF hg; have NMP := NL BP hg; have GM := Aside0.mk (show w.heap.size ≤ gm by rw [hg]; exact (FU F0).size); replace BF := bB BF hb; replace BP := bB BP hb; replace F0 := FS F0 hb; clear hb hbox hg d3 d4; have c7 := cell_of_one BM.out; have f7 := free_of_one BM.out))
  have q1_ := Aside0.mk (blk_far (p := ⟨gm, 0, none⟩) BF.out NMF.out (.int .i64 (m : Int))); have q2_ := Aside0.mk (blk_far (p := ⟨gm, 0, none⟩) BP.out NMP.out (.int .i64 (m : Int))); have q3_ := Aside0.mk (show (w4.setCell ⟨gm, 0, none⟩ (.int .i64 (m : Int))).heap[gm]? = some (.cells #[.int .i64 (m : Int)] 3 (0, 0)) from one_setCell BM.out); replace F0 := Aside0.mk (below_set F0.out GM.out : Below w.heap.size w (w4.setCell ⟨gm, 0, none⟩ (.int .i64 (m : Int)))); clear BF BP BM c7 f7; have BF := q1_; have BP := q2_; have BM := q3_; clear q1_ q2_ q3_; have d3 := cell_of_one BF.out
  have bl0 : (0 : Int) ≤ (l0.length : Int) := by omega
  have bl3 : (l0.length : Int) ≤ 3 := by have := N3.out; omega
  go_upto_region 5 with (first | ((with_reducible refine gate_dst (N := 42) rfl ?_); refine Kd.R_make (Kd.int .i64) _ 3 rfl (N := 42) rfl 23 _ _ rfl (l0.length : Int) rfl rfl Try.underlying23 (.int .i64 0) 8 info3 rfl (by decide) (by omega) 0 (ok := fun _ => True) (okp := fun _ => True) rfl (fun _ hk => hk) trivial (by omega) (by omega) (Below.refl _ _) (Nat.le_refl _) ?_; intro v42 w5 ho hb hg_ hnew_; clear hg_ hnew_; simp only [Int.toNat_natCast] at ho; have HR := Aside0.mk (Kd.R_lower ho (FU F0).size); obtain ⟨ga, cv, ee, gbe, gle, HGe⟩ := Kd.R_form ho (by rw [List.length_replicate]; exact N0.out); rw [List.length_replicate] at ee; subst ee; have NAF := Aside0.mk (show gf ≠ ga from Nat.ne_of_lt (Nat.lt_of_lt_of_le (blk_lt BF.out) gbe)); have NAP := Aside0.mk (show gp ≠ ga from Nat.ne_of_lt (Nat.lt_of_lt_of_le (blk_lt BP.out) gbe)); have NAM := Aside0.mk (show gm ≠ ga from Nat.ne_of_lt (Nat.lt_of_lt_of_le (blk_lt BM.out) gbe)); have GA := Aside0.mk (Nat.le_trans (FU F0).size gbe); have LA := Aside0.mk gle; replace BF := bB BF hb; replace BP := bB BP hb; replace BM := bB BM hb; replace F0 := FS F0 hb; clear hb ho gbe gle HGe d3) | ((with_reducible refine gate_dst (N := 8) rfl ?_); refine boxE (N := 8) (cs := #[.slice none 0 0]) (t := 23) ?_; intro gv hg w6 hbox hb; have BV := Aside0.mk hbox; have GV := Aside0.mk (show w.heap.size ≤ gv by rw [hg]; exact (FU F0).size); have NVF := NL BF hg; have NVP := NL BP hg; have NVM := NL BM hg; have NAV := Aside0.mk (show gv ≠ ga by rw [hg]; exact Nat.ne_of_gt LA.out); replace HR := Aside0.mk (Kd.R_below (U HR.out) hb); replace BF := bB BF hb; replace BP := bB BP hb; replace BM := bB BM hb; replace F0 := FS F0 hb; clear hb hbox hg; have c8 := cell_of_one BV.out; have f8 := free_of_one BV.out))
  have q1_ := Aside0.mk (blk_far (p := ⟨gv, 0, none⟩) BF.out NVF.out (.slice (some ⟨ga, 0, none⟩) l0.length cv)); have q2_ := Aside0.mk (blk_far (p := ⟨gv, 0, none⟩) BP.out NVP.out (.slice (some ⟨ga, 0, none⟩) l0.length cv)); have q3_ := Aside0.mk (blk_far (p := ⟨gv, 0, none⟩) BM.out NVM.out (.slice (some ⟨ga, 0, none⟩) l0.length cv)); have q4_ := Aside0.mk (show (w6.setCell ⟨gv, 0, none⟩ (.slice (some ⟨ga, 0, none⟩) l0.length cv)).heap[gv]? = some (.cells #[(.slice (some ⟨ga, 0, none⟩) l0.length cv)] 23 (0, 0)) from one_setCell BV.out); replace HR := Aside0.mk (Kd.R_far (p := ⟨gv, 0, none⟩) (Kd.R_types HR.out BV.out (by decide)) (fun _ hk => hk.2) (.slice (some ⟨ga, 0, none⟩) l0.length cv)); replace F0 := Aside0.mk (below_set F0.out GV.out : Below w.heap.size w (w6.setCell ⟨gv, 0, none⟩ (.slice (some ⟨ga, 0, none⟩) l0.length cv))); clear BF BP BM BV c8 f8; have BF := q1_; have BP := q2_; have BM := q3_; have BV := q4_; clear q1_ q2_ q3_ q4_
  go_upto_region 7 with (first | ((with_reducible refine gate_dst (N := 9) rfl ?_); refine boxE (N := 9) (cs := #[.nilFunc]) (t := 46) ?_; intro gt hg w7 hbox hb; have BT := Aside0.mk hbox; have GT := Aside0.mk (show w.heap.size ≤ gt by rw [hg]; exact (FU F0).size); have NTF := NL BF hg; have NTP := NL BP hg; have NTM := NL BM hg; have NTV := NL BV hg; have NAT := Aside0.mk (show gt ≠ ga by rw [hg]; exact Nat.ne_of_gt (Kd.R_lt HR.out ga rfl)); replace HR := Aside0.mk (Kd.R_below (U HR.out) hb); replace BF := bB BF hb; replace BP := bB BP hb; replace BM := bB BM hb; replace BV := bB BV hb; replace F0 := FS F0 hb; clear hb hbox hg; have c9 := cell_of_one BT.out; have f9 := free_of_one BT.out))
  have HM := Aside0.mk (show MS gv gp gf gm gt ga cv A0 c0 l0 a1 (m : Int) l0.length (w7.setCell ⟨gt, 0, none⟩ (.func (.func 34) #[] #[.pointer (some ⟨gv, 0, none⟩), .pointer (some ⟨gp, 0, none⟩), .pointer (some ⟨gf, 0, none⟩), .pointer (some ⟨gm, 0, none⟩), .pointer (some ⟨gt, 0, none⟩)])) (List.replicate l0.length 0) from ⟨blk_far BV.out NTV.out _, blk_far BP.out NTP.out _, blk_far BF.out NTF.out _, blk_far BM.out NTM.out _, one_setCell BT.out, Kd.R_lower (Kd.R_mono (Kd.R_far (p := ⟨gt, 0, none⟩) (Kd.R_types HR.out BT.out (by decide)) (fun _ hk => hk.2) _) (fun _ _ => trivial)) (Nat.zero_le _)⟩); replace F0 := Aside0.mk (below_set F0.out GT.out : Below w.heap.size w (w7.setCell ⟨gt, 0, none⟩ (.func (.func 34) #[] #[.pointer (some ⟨gv, 0, none⟩), .pointer (some ⟨gp, 0, none⟩), .pointer (some ⟨gf, 0, none⟩), .pointer (some ⟨gm, 0, none⟩), .pointer (some ⟨gt, 0, none⟩)]))); clear c9 f9; have c9 := cell_of_one HM.out.bt
  go_wp2_with (go_at_call 34; refine (modulo_try k A0 c0 l0 a1 m w HR0.out HC0.out P0.out (by have := M1.out; omega) (by have := M32.out; omega) gv gp gf gm gt ga cv l0.length (by have := N3.out; omega) ⟨NAV.out, NAP.out, NAF.out, NAM.out, NAT.out⟩ GA.out l0.length 0 0 _ (List.replicate l0.length 0) r rfl (Nat.zero_add _) HM.out F0.out HS.out).mono ?_; rintro e w8 ⟨rfl, _, hB8⟩; have HB8 := Aside0.mk hB8; clear hB8)
  go_ret
  exact ⟨rfl, HB8.out⟩

/-! ### laws_FnZero: function 3 -/
def laws_FnZero.j0 : Nat → List Int → List Int → Bool → Bool → Bool → Option (Bool)
  | 0, _, _, _, _, _ => none
  | k + 1, x3, x4, x5, x6, x27 => if x27 = true then (some (x5 == x6)) else ((impl_FormBad.f k x3).bind fun t495 => (if (t495.length : Int) = 0 then ((laws_minusOf.f k x4).bind fun t498 => ((impl_ZeroIs.f k x3 t498).bind fun t501 => (if t501 = true then (if (x3.length : Int) > 3 then (some true) else ((impl_ZeroModulo.f k x3 2 1).bind fun t502 => (if t502 = true then ((impl_ZeroModulo.f k x3 3 1).bind fun t503 => (if t503 = true then ((impl_ZeroModulo.f k x3 3 2).bind fun t504 => (some t504)) else (none))) else (none)))) else (none)))) else (none)))
def laws_FnZero.f (k : Nat) (l0 : List Int) : Option (Bool) := if (l0.length : Int) > 1048576 then (some true) else ((spec_DrawZeroIs.f k l0).bind fun bt487 => ((impl_ZeroIs.f k bt487.1 bt487.2).bind fun t493 => ((spec_ZeroIs.f k bt487.1 bt487.2).bind fun t494 => (if (t493 != t494) = true then (laws_FnZero.j0 k bt487.1 bt487.2 t493 t494 true) else (laws_FnZero.j0 k bt487.1 bt487.2 t493 t494 (!t493))))))
theorem laws_FnZero.mono_l : ∀ k, (∀ y0 y1 y2 y3 y4, LeO (laws_FnZero.j0 k y0 y1 y2 y3 y4) (laws_FnZero.j0 (k + 1) y0 y1 y2 y3 y4))
  | 0 => fun _ _ _ _ _ r h => by simp [laws_FnZero.j0] at h
  | k + 1 => by
    have ih0 := laws_FnZero.mono_l k
    · intro y0 y1 y2 y3 y4
      unfold laws_FnZero.j0
      repeat' first
      | (with_reducible exact ih0 _ _ _ _ _)
      | (with_reducible exact impl_FormBad.mono _ _)
      | (with_reducible exact impl_ZeroIs.mono _ _ _)
      | (with_reducible exact impl_ZeroModulo.mono _ _ _ _)
      | (with_reducible exact laws_minusOf.mono _ _)
      | (with_reducible exact spec_DrawZeroIs.mono _ _)
      | (with_reducible exact spec_ZeroIs.mono _ _ _)
      | (with_reducible exact LeO.refl _)
      | (with_reducible exact LeO.none _)
      | (with_reducible refine LeO.ite ?_ ?_)
      | (with_reducible refine LeO.bind ?_ (fun _ => ?_))
      | exact ih0 _ _ _ _ _
      | exact impl_FormBad.mono _ _
      | exact impl_ZeroIs.mono _ _ _
      | exact impl_ZeroModulo.mono _ _ _ _
      | exact laws_minusOf.mono _ _
      | exact spec_DrawZeroIs.mono _ _
      | exact spec_ZeroIs.mono _ _ _
      | exact LeO.none _
      | refine LeO.ite ?_ ?_
      | refine LeO.bind ?_ (fun _ => ?_)
theorem laws_FnZero.mono : ∀ a0 k, LeO (laws_FnZero.f k a0) (laws_FnZero.f (k + 1) a0) := by
  intro a0 k
  have ih0 := laws_FnZero.mono_l k
  unfold laws_FnZero.f
  repeat' first
      | (with_reducible exact ih0 _ _ _ _ _)
      | (with_reducible exact impl_FormBad.mono _ _)
      | (with_reducible exact impl_ZeroIs.mono _ _ _)
      | (with_reducible exact impl_ZeroModulo.mono _ _ _ _)
      | (with_reducible exact laws_minusOf.mono _ _)
      | (with_reducible exact spec_DrawZeroIs.mono _ _)
      | (with_reducible exact spec_ZeroIs.mono _ _ _)
      | (with_reducible exact LeO.refl _)
      | (with_reducible exact LeO.none _)
      | (with_reducible refine LeO.ite ?_ ?_)
      | (with_reducible refine LeO.bind ?_ (fun _ => ?_))
      | exact ih0 _ _ _ _ _
      | exact impl_FormBad.mono _ _
      | exact impl_ZeroIs.mono _ _ _
      | exact impl_ZeroModulo.mono _ _ _ _
      | exact laws_minusOf.mono _ _
      | exact spec_DrawZeroIs.mono _ _
      | exact spec_ZeroIs.mono _ _ _
      | exact LeO.none _
      | refine LeO.ite ?_ ?_
      | refine LeO.bind ?_ (fun _ => ?_)
set_option maxHeartbeats 8000000 in
set_option maxRecDepth 100000 in
theorem laws_FnZero.calls (k : Nat) (A0 : Option Addr) (c0 : Nat) (l0 : List Int) (r : Bool) (w : World) (hr0 : Kd.C (Kd.int .u8) w A0 l0.length l0) (hc0 : l0.length ≤ c0) (h : laws_FnZero.f k l0 = some r) :
    Calls Try.prog 3 #[.slice A0 l0.length c0] w fun e w' => e = .returned (.bool r) ∧ Below w.heap.size w w' := by
  have HR0 := Aside0.mk hr0; have HC0 := Aside0.mk hc0; clear hr0 hc0; have HB := Aside0.mk (Below.refl w.heap.size w); unfold laws_FnZero.f at h; have H := h; clear h
  by_cases c2 : (l0.length : Int) > 1048576
  · rw [if_pos c2] at H
    have c2b0 : decide (1048576 < (l0.length : Int)) = true := decide_eq_true c2; have c2b1 : decide (1048576 < l0.length) = true := decide_eq_true (by omega); clear c2; obtain rfl := Option.some.inj H; go_enter Try.func3, Try.ntmps3
    go_wp2
    go_ret
    exact ⟨eR, BU⟩
  · rw [if_neg c2] at H
    have c2b0 : decide (1048576 < (l0.length : Int)) = false := decide_eq_false c2; have c2b1 : decide (1048576 < l0.length) = false := decide_eq_false (by omega); clear c2; obtain ⟨⟨t487, t488⟩, A3, H⟩ := bnd H
    replace H : ((impl_ZeroIs.f k t487 t488).bind fun t493 => ((spec_ZeroIs.f k t487 t488).bind fun t494 => (if (t493 != t494) = true then (laws_FnZero.j0 k t487 t488 t493 t494 true) else (laws_FnZero.j0 k t487 t488 t493 t494 (!t493))))) = some r := H
    obtain ⟨t493, A4, H⟩ := bnd H; obtain ⟨t494, A5, H⟩ := bnd H; have HC6 := Aside0.mk H; clear H; go_enter Try.func3, Try.ntmps3
    go_upto_region 6 with (first | ((with_reducible refine gate_callee (f := 6) rfl ?_); refine goesK (some 12) Try.func6 #[.slice A0 l0.length c0] ?_; (with_reducible refine (spec_DrawZeroIs.calls k _ _ l0 t487 t488 _ ?side1 ?side2 A3.out).mono ?_); (case side1 => exact U HR0.out); (case side2 => exact HC0.out); rintro e w7 ⟨v489, v491, rfl, ho0, ho1, hb⟩; refine ⟨_, rfl, ?_⟩; have HO490 := Aside0.mk (Kd.R_lower ho0 (below_size BU)); have HO492 := Aside0.mk (Kd.R_lower ho1 (below_size BU)); replace HB := BS hb; (try clear hb); (try clear ho0); (try clear ho1); obtain ⟨Ao8, co8, eo8⟩ := Kd.R_slice HO490.out; subst eo8; obtain ⟨Ao9, co9, eo9⟩ := Kd.R_slice HO492.out; subst eo9) | ((with_reducible refine gate_callee (f := 7) rfl ?_); refine goesK (some 17) Try.func7 #[.slice Ao8 t487.length co8, .slice Ao9 t488.length co9] ?_; (with_reducible refine (impl_ZeroIs.calls k _ _ t487 _ _ t488 t493 _ ?side1 ?side2 ?side3 ?side4 A4.out).mono ?_); (case side1 => exact U ((Kd.R_reads' HO490.out).2.2)); (case side2 => exact (Kd.R_reads' HO490.out).2.1); (case side3 => exact U ((Kd.R_reads' HO492.out).2.2)); (case side4 => exact (Kd.R_reads' HO492.out).2.1); rintro e w10 ⟨rfl, hb⟩; refine ⟨_, rfl, ?_⟩; replace HO490 := Aside0.mk (Kd.R_below (U HO490.out) hb); replace HO492 := Aside0.mk (Kd.R_below (U HO492.out) hb); replace HB := BS hb; (try clear hb)) | ((with_reducible refine gate_callee (f := 8) rfl ?_); refine goesK (some 20) Try.func8 #[.slice Ao8 t487.length co8, .slice Ao9 t488.length co9] ?_; (with_reducible refine (spec_ZeroIs.calls k _ _ t487 _ _ t488 t494 _ ?side1 ?side2 ?side3 ?side4 A5.out).mono ?_); (case side1 => exact U ((Kd.R_reads' HO490.out).2.2)); (case side2 => exact (Kd.R_reads' HO490.out).2.1); (case side3 => exact U ((Kd.R_reads' HO492.out).2.2)); (case side4 => exact (Kd.R_reads' HO492.out).2.1); rintro e w' ⟨rfl, ⟨nd, rfl⟩⟩; refine ⟨_, rfl, ?_⟩))
    (try simp only [Act.put, List.setIfInBounds_toArray, List.set_cons_zero, List.set_cons_succ])
    go_cut [27] (fun v27 wc => ∃ (kq : Nat) (x27_5 : Bool), v27 = .bool x27_5 ∧ Aside0 (laws_FnZero.j0 kq t487 t488 t493 t494 x27_5 = some r) ∧ Aside0 (kq ≤ k) ∧ Aside0 (Kd.R (Kd.int .i64) 3 wc w.heap.size (fun k_ => some k_ ≠ ((.slice Ao9 t488.length co9) : Value).ownBlock) (.slice Ao8 t487.length co8) t487) ∧ Aside0 (Kd.R (Kd.int .i64) 3 wc w.heap.size (fun k_ => some k_ ≠ ((.slice Ao8 t487.length co8) : Value).ownBlock) (.slice Ao9 t488.length co9) t488) ∧ Aside0 (Below w.heap.size w wc))
    case first =>
      have H := HC6.out; clear HC6
      by_cases c11 : (t493 != t494) = true
      · rw [if_pos c11] at H
        have c11b0 : (t493 != t494) = true := c11
        (try (have c11b1 : decide (t493 = t494) = false := by simpa using c11))
        (try (have c11b2 : (t493 == t494) = false := by simpa using c11))
        (try (have c11b3 : ¬ (t493 = t494) := by simpa using c11))
        clear c11
        (first | rw [c11b0] | (simp only [i64_w, i32_w]; rw [c11b0]) | skip)
        have H' := Aside0.mk H; clear H
        go_wp2
        go_meet
        case rel => exact ⟨_, (true), sR, H', ⟨oR⟩, ⟨U HO490.out⟩, ⟨U HO492.out⟩, ⟨BU⟩⟩
      · rw [if_neg c11] at H
        have c11b0 : (t493 != t494) = false := by simpa using c11
        (try (have c11b1 : decide (t493 = t494) = true := by simpa using c11))
        (try (have c11b2 : (t493 == t494) = true := by simpa using c11))
        clear c11
        (first | rw [c11b0] | (simp only [i64_w, i32_w]; rw [c11b0]) | skip)
        have H' := Aside0.mk H; clear H
        go_wp2
        go_meet
        case rel => exact ⟨_, (!t493), sR, H', ⟨oR⟩, ⟨U HO490.out⟩, ⟨U HO492.out⟩, ⟨BU⟩⟩
    case rest =>
      clear HC6; (try clear c2); (try clear c2b0); (try clear c2b1); obtain ⟨kq, x27_5, rfl, HA, HJ5, HO_3, HO_4, HB⟩ := hcut; cases kq with
      | zero => exact absurd HA.out (by simp [laws_FnZero.j0])
      | succ kj5 =>
        have H := HA.out; clear HA; simp only [laws_FnZero.j0] at H
        by_cases c12 : x27_5 = true
        · subst c12
          replace H := ifT H; obtain rfl := Option.some.inj H
          go_wp2
          go_ret
          exact ⟨eR, BU⟩
        · replace c12 := Bool.eq_false_iff.mpr c12
          subst c12; replace H := ifF H; obtain ⟨t495, A13, H⟩ := bnd H
          by_cases c14 : (t495.length : Int) = 0
          · rw [if_pos c14] at H
            have c14b0 : ((t495.length : Int) == 0) = true := beq_iff_eq.mpr c14; have c14b1 : ((t495.length : Int) != 0) = false := bne_eq_false_iff_eq.mpr c14; clear c14; obtain ⟨t498, A15, H⟩ := bnd H; obtain ⟨t501, A16, H⟩ := bnd H
            by_cases c17 : t501 = true
            · subst c17
              replace H := ifT H
              by_cases c18 : (t487.length : Int) > 3
              · rw [if_pos c18] at H
                have c18b0 : decide (3 < (t487.length : Int)) = true := decide_eq_true c18; have c18b1 : decide (3 < t487.length) = true := decide_eq_true (by omega); clear c18; obtain rfl := Option.some.inj H
                go_wp2_with (first | ((with_reducible refine gate_callee (f := 9) rfl ?_); refine goesK (some 32) Try.func9 #[.slice Ao8 t487.length co8] ?_; (with_reducible refine (impl_FormBad.calls kj5 _ _ t487 t495 _ ?side1 ?side2 A13.out).mono ?_); (case side1 => exact U ((Kd.R_reads' HO_3.out).2.2)); (case side2 => exact (Kd.R_reads' HO_3.out).2.1); rintro e w19 ⟨v496, rfl, ho0, hb⟩; refine ⟨_, rfl, ?_⟩; have HO497 := Aside0.mk (Kd.R_lower (Kd.R_new' (Kd.R_new' ho0 (Kd.R_lt (U HO_3.out))) (Kd.R_lt (U HO_4.out))) (below_size BU)); replace HO_3 := Aside0.mk (Kd.R_elder' (U HO_3.out) (Kd.R_base ho0) hb); replace HO_4 := Aside0.mk (Kd.R_elder' (U HO_4.out) (Kd.R_base ho0) hb); replace HB := BS hb; (try clear hb); (try clear ho0); obtain ⟨Ao20, co20, eo20⟩ := Kd.R_slice HO497.out; subst eo20) | (go_at_call 10; (with_reducible refine (laws_minusOf.calls kj5 _ _ t488 t498 _ ?side1 ?side2 A15.out).mono ?_); (case side1 => exact U ((Kd.R_reads' HO_4.out).2.2)); (case side2 => exact (Kd.R_reads' HO_4.out).2.1); rintro e w21 ⟨v499, rfl, ho0, hb⟩; have HO500 := Aside0.mk (Kd.R_lower (Kd.R_new' (Kd.R_new' (Kd.R_new' ho0 (Kd.R_lt (U HO_3.out))) (Kd.R_lt (U HO_4.out))) (Kd.R_lt (U HO497.out))) (below_size BU)); replace HO_3 := Aside0.mk (Kd.R_elder' (U HO_3.out) (Kd.R_base ho0) hb); replace HO_4 := Aside0.mk (Kd.R_elder' (U HO_4.out) (Kd.R_base ho0) hb); replace HO497 := Aside0.mk (Kd.R_elder' (U HO497.out) (Kd.R_base ho0) hb); replace HB := BS hb; (try clear hb); (try clear ho0); obtain ⟨Ao22, co22, eo22⟩ := Kd.R_slice HO500.out; subst eo22) | (go_at_call 7; (with_reducible refine (impl_ZeroIs.calls kj5 _ _ t487 _ _ t498 true _ ?side1 ?side2 ?side3 ?side4 A16.out).mono ?_); (case side1 => exact U ((Kd.R_reads' HO_3.out).2.2)); (case side2 => exact (Kd.R_reads' HO_3.out).2.1); (case side3 => exact U ((Kd.R_reads' HO500.out).2.2)); (case side4 => exact (Kd.R_reads' HO500.out).2.1); rintro e w23 ⟨rfl, hb⟩; replace HO_3 := Aside0.mk (Kd.R_below (U HO_3.out) hb); replace HO_4 := Aside0.mk (Kd.R_below (U HO_4.out) hb); replace HO497 := Aside0.mk (Kd.R_below (U HO497.out) hb); replace HO500 := Aside0.mk (Kd.R_below (U HO500.out) hb); replace HB := BS hb; (try clear hb)))
                go_ret
                exact ⟨eR, BU⟩
              · rw [if_neg c18] at H
                have c18b0 : decide (3 < (t487.length : Int)) = false := decide_eq_false c18; have c18b1 : decide (3 < t487.length) = false := decide_eq_false (by omega); clear c18; obtain ⟨t502, A24, H⟩ := bnd H
                by_cases c25 : t502 = true
                · subst c25
                  replace H := ifT H; obtain ⟨t503, A26, H⟩ := bnd H
                  by_cases c27 : t503 = true
                  · subst c27
                    replace H := ifT H; obtain ⟨t504, A28, H⟩ := bnd H; obtain rfl := Option.some.inj H
                    go_wp2_with (first | ((with_reducible refine gate_callee (f := 9) rfl ?_); refine goesK (some 32) Try.func9 #[.slice Ao8 t487.length co8] ?_; (with_reducible refine (impl_FormBad.calls kj5 _ _ t487 t495 _ ?side1 ?side2 A13.out).mono ?_); (case side1 => exact U ((Kd.R_reads' HO_3.out).2.2)); (case side2 => exact (Kd.R_reads' HO_3.out).2.1); rintro e w29 ⟨v496, rfl, ho0, hb⟩; refine ⟨_, rfl, ?_⟩; have HO497 := Aside0.mk (Kd.R_lower (Kd.R_new' (Kd.R_new' ho0 (Kd.R_lt (U HO_3.out))) (Kd.R_lt (U HO_4.out))) (below_size BU)); replace HO_3 := Aside0.mk (Kd.R_elder' (U HO_3.out) (Kd.R_base ho0) hb); replace HO_4 := Aside0.mk (Kd.R_elder' (U HO_4.out) (Kd.R_base ho0) hb); replace HB := BS hb; (try clear hb); (try clear ho0); obtain ⟨Ao30, co30, eo30⟩ := Kd.R_slice HO497.out; subst eo30) | (go_at_call 10; (with_reducible refine (laws_minusOf.calls kj5 _ _ t488 t498 _ ?side1 ?side2 A15.out).mono ?_); (case side1 => exact U ((Kd.R_reads' HO_4.out).2.2)); (case side2 => exact (Kd.R_reads' HO_4.out).2.1); rintro e w31 ⟨v499, rfl, ho0, hb⟩; have HO500 := Aside0.mk (Kd.R_lower (Kd.R_new' (Kd.R_new' (Kd.R_new' ho0 (Kd.R_lt (U HO_3.out))) (Kd.R_lt (U HO_4.out))) (Kd.R_lt (U HO497.out))) (below_size BU)); replace HO_3 := Aside0.mk (Kd.R_elder' (U HO_3.out) (Kd.R_base ho0) hb); replace HO_4 := Aside0.mk (Kd.R_elder' (U HO_4.out) (Kd.R_base ho0) hb); replace HO497 := Aside0.mk (Kd.R_elder' (U HO497.out) (Kd.R_base ho0) hb); replace HB := BS hb; (try clear hb); (try clear ho0); obtain ⟨Ao32, co32, eo32⟩ := Kd.R_slice HO500.out; subst eo32) | (go_at_call 7; (with_reducible refine (impl_ZeroIs.calls kj5 _ _ t487 _ _ t498 true _ ?side1 ?side2 ?side3 ?side4 A16.out).mono ?_); (case side1 => exact U ((Kd.R_reads' HO_3.out).2.2)); (case side2 => exact (Kd.R_reads' HO_3.out).2.1); (case side3 => exact U ((Kd.R_reads' HO500.out).2.2)); (case side4 => exact (Kd.R_reads' HO500.out).2.1); rintro e w33 ⟨rfl, hb⟩; replace HO_3 := Aside0.mk (Kd.R_below (U HO_3.out) hb); replace HO_4 := Aside0.mk (Kd.R_below (U HO_4.out) hb); replace HO497 := Aside0.mk (Kd.R_below (U HO497.out) hb); replace HO500 := Aside0.mk (Kd.R_below (U HO500.out) hb); replace HB := BS hb; (try clear hb)) | (go_at_call 11; (with_reducible refine (impl_ZeroModulo.calls kj5 _ _ t487 2 1 true _ ?side1 ?side2 A24.out).mono ?_); (case side1 => exact U ((Kd.R_reads' HO_3.out).2.2)); (case side2 => exact (Kd.R_reads' HO_3.out).2.1); rintro e w34 ⟨rfl, hb⟩; replace HO_3 := Aside0.mk (Kd.R_below (U HO_3.out) hb); replace HO_4 := Aside0.mk (Kd.R_below (U HO_4.out) hb); replace HO497 := Aside0.mk (Kd.R_below (U HO497.out) hb); replace HO500 := Aside0.mk (Kd.R_below (U HO500.out) hb); replace HB := BS hb; (try clear hb)) | (go_at_call 11; (with_reducible refine (impl_ZeroModulo.calls kj5 _ _ t487 3 1 true _ ?side1 ?side2 A26.out).mono ?_); (case side1 => exact U ((Kd.R_reads' HO_3.out).2.2)); (case side2 => exact (Kd.R_reads' HO_3.out).2.1); rintro e w35 ⟨rfl, hb⟩; replace HO_3 := Aside0.mk (Kd.R_below (U HO_3.out) hb); replace HO_4 := Aside0.mk (Kd.R_below (U HO_4.out) hb); replace HO497 := Aside0.mk (Kd.R_below (U HO497.out) hb); replace HO500 := Aside0.mk (Kd.R_below (U HO500.out) hb); replace HB := BS hb; (try clear hb)) | (go_at_call 11; (with_reducible refine (impl_ZeroModulo.calls kj5 _ _ t487 3 2 t504 _ ?side1 ?side2 A28.out).mono ?_); (case side1 => exact U ((Kd.R_reads' HO_3.out).2.2)); (case side2 => exact (Kd.R_reads' HO_3.out).2.1); rintro e w36 ⟨rfl, hb⟩; replace HO_3 := Aside0.mk (Kd.R_below (U HO_3.out) hb); replace HO_4 := Aside0.mk (Kd.R_below (U HO_4.out) hb); replace HO497 := Aside0.mk (Kd.R_below (U HO497.out) hb); replace HO500 := Aside0.mk (Kd.R_below (U HO500.out) hb); replace HB := BS hb; (try clear hb)))
                    go_ret
                    exact ⟨eR, BU⟩
                  · replace c27 := Bool.eq_false_iff.mpr c27
                    subst c27; replace H := ifF H
                    exact absurd H (by simp)
                · replace c25 := Bool.eq_false_iff.mpr c25
                  subst c25; replace H := ifF H
                  exact absurd H (by simp)
            · replace c17 := Bool.eq_false_iff.mpr c17
              subst c17; replace H := ifF H
              exact absurd H (by simp)
          · rw [if_neg c14] at H
            exact absurd H (by simp)

/-- THE ONE PURE STATEMENT of laws_FnZero: yours. -/
def laws_FnZero.Pure : Prop := ∀ (l0 : List Int), l0.length ≤ maxLen → l0.length * 1 ≤ 140737488351232 → (∀ x ∈ l0, (Lit.int .u8 x).wf = true) → ∃ k, laws_FnZero.f k l0 = some true
theorem laws_FnZero.walk (P : laws_FnZero.Pure) (a0 : Option Addr) (len0 cap0 : Nat) (z0 : List Int) (w : World) (w0 : (a0 = none ∧ len0 = 0 ∧ cap0 = 0 ∧ z0 = []) ∨ ∃ x, a0 = some x ∧ len0 ≤ cap0 ∧ cap0 ≤ maxLen ∧ z0.length = cap0 ∧ (∀ i, i < z0.length → w.cell? (x.add i) = some (.int .u8 (z0.getD i 0))) ∧ ∀ n ∈ z0, (Lit.int .u8 n).wf = true) (y0 : len0 * 1 ≤ 140737488351232) :
    Calls Try.prog 3 #[.slice a0 len0 cap0] w fun e w' => e = .returned (.bool true) ∧ Below w.heap.size w w' := by
  obtain ⟨l0, rfl, hr0, hm0, hw0, hc0⟩ := ReadsInt.ofRowC w0
  obtain ⟨k, h⟩ := P l0 hm0 y0 hw0
  refine (laws_FnZero.calls k _ _ l0 true w (Kd.C_of_reads (d := (0 : Int)) (h1 := fun _ => rfl) hr0) hc0 h).mono ?_
  rintro e w' ⟨rfl, hd⟩
  exact ⟨rfl, hd⟩

end Go.Proofs.Ytpjgcjkodmkemaa.PFnZero
