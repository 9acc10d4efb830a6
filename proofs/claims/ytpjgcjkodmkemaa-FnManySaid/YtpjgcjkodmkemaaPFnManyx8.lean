-- Written by a program of this session (wip/print2.py): the functions that the law reaches, plain, and the walks.
import Derived.Test.YtpjgcjkodmkemaaPFnManyx0
import Derived.Test.YtpjgcjkodmkemaaPFnManyx1
import Derived.Test.YtpjgcjkodmkemaaPFnManyx5
import Derived.Test.YtpjgcjkodmkemaaPFnManyx7
namespace Go.Proofs.Ytpjgcjkodmkemaa.PFnMany
open Go.RowKit Go.Proofs.YtpjgcjkodmkemaaW.PrintWords Go.Proofs.YtpjgcjkodmkemaaW.PrintLast Go.Proofs.YtpjgcjkodmkemaaW.PrintMore
attribute [local go_sem] max2_int min2_int max_two min_two max_three min_three max_four min_four   -- for this text's walks alone
set_option linter.unusedVariables false
set_option linter.unusedSimpArgs false

/-! ### impl_vectors, impl_ZeroMany (the numbers are those of seat a3) -/
/-- So many rounds, from an integer on. -/
def vecL {σ : Type} (f : Int → σ → Option σ) : Nat → Int → σ → Option σ
  | 0, _, s => some s
  | c + 1, x, s => (f x s).bind (vecL f c (x + 1))
/-- What becomes of a state when it is told of all vectors that go on from some integers. -/
def vecR {σ : Type} (step : List Int → σ → Option σ) (n : Nat) : Nat → List Int → σ → Option σ
  | 0, p, s => step p s
  | m + 1, p, s => vecL (fun x s => vecR step n m (p ++ [x]) s) (2 * n + 1) (-(n : Int)) s
/-- The variables of impl.vectors, and the vector. -/
structure VS (gm gt gv gn gy ga cv : Nat) (tell : Value) (many n : Nat) (W : World) (vs : List Int) : Prop where
  bm : W.heap[gm]? = some (.cells #[.int .i64 (many : Int)] 3 (0, 0))
  bt : W.heap[gt]? = some (.cells #[tell] 51 (0, 0))
  bv : W.heap[gv]? = some (.cells #[.slice (some ⟨ga, 0, none⟩) many cv] 23 (0, 0))
  bn : W.heap[gn]? = some (.cells #[.int .i64 (n : Int)] 3 (0, 0))
  bf : W.heap[gy]? = some (.cells #[.func (.func 63) #[] #[.pointer (some ⟨gm, 0, none⟩), .pointer (some ⟨gt, 0, none⟩), .pointer (some ⟨gv, 0, none⟩), .pointer (some ⟨gn, 0, none⟩), .pointer (some ⟨gy, 0, none⟩)]] 65 (0, 0))
  row : Kd.R (Kd.int .i64) 3 W 0 (fun _ => True) (.slice (some ⟨ga, 0, none⟩) many cv) vs
theorem VS.len {gm gt gv gn gy ga cv : Nat} {tell : Value} {many n : Nat} {W : World} {vs : List Int} (h : VS gm gt gv gn gy ga cv tell many n W vs) : many = vs.length := (Kd.R_reads' h.row).1
/-- Nothing of it is written. -/
theorem VS.same {bad : Nat → Prop} {gm gt gv gn gy ga cv : Nat} {tell : Value} {many n : Nat} {W W' : World} {vs : List Int} (h : VS gm gt gv gn gy ga cv tell many n W vs) (hs : Same bad W W') (hb : ∀ g, (g = gm ∨ g = gt ∨ g = gv ∨ g = gn ∨ g = gy ∨ g = ga) → ¬ bad g) : VS gm gt gv gn gy ga cv tell many n W' vs :=
  ⟨(hs.2 gm (blk_lt h.bm) (hb gm (.inl rfl))).trans h.bm, (hs.2 gt (blk_lt h.bt) (hb gt (.inr (.inl rfl)))).trans h.bt, (hs.2 gv (blk_lt h.bv) (hb gv (.inr (.inr (.inl rfl))))).trans h.bv,
    (hs.2 gn (blk_lt h.bn) (hb gn (.inr (.inr (.inr (.inl rfl)))))).trans h.bn, (hs.2 gy (blk_lt h.bf) (hb gy (.inr (.inr (.inr (.inr (.inl rfl))))))).trans h.bf,
    Kd.R_mono (Kd.R_step (Kd.R_tight rfl h.row) (fun k hk hlt => hs.2 k hlt (hb k (.inr (.inr (.inr (.inr (.inr (Option.some.inj (hk : some k = some ga)))))))))) (fun _ _ => trivial)⟩
theorem VS.below {gm gt gv gn gy ga cv : Nat} {tell : Value} {many n : Nat} {W W' : World} {vs : List Int} (h : VS gm gt gv gn gy ga cv tell many n W vs) (hb : Below W.heap.size W W') : VS gm gt gv gn gy ga cv tell many n W' vs := h.same (bad := fun _ => False) (Same.below hb) (fun _ _ => id)
/-- An integer of the vector is written. -/
theorem VS.put {gm gt gv gn gy ga cv : Nat} {tell : Value} {many n : Nat} {W : World} {vs : List Int} (h : VS gm gt gv gn gy ga cv tell many n W vs) (hn : gm ≠ ga ∧ gt ≠ ga ∧ gv ≠ ga ∧ gn ≠ ga ∧ gy ≠ ga) (j : Nat) (x : Int) : VS gm gt gv gn gy ga cv tell many n (W.setCell ⟨ga, j, none⟩ (.int .i64 x)) (vs.set j x) :=
  ⟨blk_far h.bm hn.1 _, blk_far h.bt hn.2.1 _, blk_far h.bv hn.2.2.1 _, blk_far h.bn hn.2.2.2.1 _, blk_far h.bf hn.2.2.2.2 _, (Kd.R_putg h.row (j : Int) x).1⟩
theorem rd_take {vs : List Int} {j : Nat} (hj : j < vs.length) : vs.take (j + 1) = vs.take j ++ [rd vs (j : Int)] := by
  rw [List.take_add_one, List.getElem?_eq_getElem hj]; unfold rd; simp [hj]
set_option maxHeartbeats 4000000 in
set_option maxRecDepth 100000 in
theorem vectors_try {σ : Type} (I : σ → World → Prop) (step : List Int → σ → Option σ) (w : World) (gm gt gv gn gy ga cv many n : Nat) (u1 u2 : Value)
    (hm : many ≤ 1000) (hn6 : n ≤ 1000) (hne : gm ≠ ga ∧ gt ≠ ga ∧ gv ≠ ga ∧ gn ≠ ga ∧ gy ≠ ga) (hga : w.heap.size ≤ ga)
    (HT : ∀ W vs s s', VS gm gt gv gn gy ga cv (.func (.func 38) #[] #[u1, u2]) many n W vs → I s W → Below w.heap.size w W → step vs s = some s' →
      Calls Try.prog 38 #[.slice (some ⟨ga, 0, none⟩) many cv, u1, u2] W fun e W' => e = .returned (.tuple #[]) ∧ VS gm gt gv gn gy ga cv (.func (.func 38) #[] #[u1, u2]) many n W' vs ∧ I s' W' ∧ Below w.heap.size w W')
    (HI : ∀ s W i x, I s W → I s (W.setCell ⟨ga, i, none⟩ x)) (HD : ∀ s W W', I s W → Below W.heap.size W W' → I s W') :
    ∀ (r j : Nat) (a : Int) (W : World) (vs : List Int) (s s' : σ), a = (j : Int) → j + r = many → VS gm gt gv gn gy ga cv (.func (.func 38) #[] #[u1, u2]) many n W vs → I s W → Below w.heap.size w W → vecR step n r (vs.take j) s = some s' →
      Calls Try.prog 63 #[.int .i64 a, .pointer (some ⟨gm, 0, none⟩), .pointer (some ⟨gt, 0, none⟩), .pointer (some ⟨gv, 0, none⟩), .pointer (some ⟨gn, 0, none⟩), .pointer (some ⟨gy, 0, none⟩)] W fun e W' =>
        e = .returned (.tuple #[]) ∧ (∃ vs', vs'.take j = vs.take j ∧ VS gm gt gv gn gy ga cv (.func (.func 38) #[] #[u1, u2]) many n W' vs') ∧ I s' W' ∧ Below w.heap.size w W' := by
  intro r
  induction r with
  | zero =>
    intro j a W vs s s' ha hj hV hI hB hs
    have hl := hV.len
    subst ha
    obtain rfl : j = many := by omega
    rw [List.take_of_length_le (by omega)] at hs
    have HV := Aside0.mk hV; have HIW := Aside0.mk hI; have HB := Aside0.mk hB; have HS := Aside0.mk hs
    have c1 := cell_of_one hV.bm; have c2 := cell_of_one hV.bt; have c3 := cell_of_one hV.bv
    clear hV hI hB hs hl hj
    go_enter Try.func63, Try.ntmps63
    go_wp2_with (go_at_call 38; refine (HT W vs s s' HV.out HIW.out HB.out HS.out).mono ?_; rintro e w1 ⟨rfl, hV1, hI1, hB1⟩; have HV1 := Aside0.mk hV1; have HI1 := Aside0.mk hI1; have HB1 := Aside0.mk hB1; clear hV1 hI1 hB1)
    exact bodyPost_ret (results_none (by rfl) _ _ _) rfl ⟨rfl, ⟨vs, rfl, HV1.out⟩, HI1.out, HB1.out⟩
  | succ r ih =>
    intro j a W vs s s' ha hj hV hI hB hs
    have hl := hV.len
    subst ha
    have hjl : j < vs.length := by omega
    obtain ⟨hx0, hf0⟩ := Kd.R_celln 0 hV.row (j : Int) (by omega) (by omega)
    have hx0 : W.cell? ⟨ga, j, none⟩ = some (.int .i64 (rdOf 0 vs (j : Int))) := hx0
    have hf0 : W.frozen? ⟨ga, j, none⟩ = false := hf0
    have HP := Aside0.mk (hV.put hne j (-(n : Int)))
    have HV := Aside0.mk hV; have HIW := Aside0.mk (HI s W j (.int .i64 (-(n : Int))) hI); have HB := Aside0.mk (below_set hB hga : Below w.heap.size w (W.setCell ⟨ga, j, none⟩ (.int .i64 (-(n : Int))))); have HS := Aside0.mk hs
    have c1 := cell_of_one hV.bm; have c3 := cell_of_one hV.bv; have c4 := cell_of_one hV.bn
    have cb : ((j : Int) == (many : Int)) = false := beq_eq_false_iff_ne.mpr (by omega)
    have q1 : (0 ≤ (j : Int)) = True := eq_true (by omega); have q2 : ((j : Int) < (many : Int)) = True := eq_true (by omega)
    have HL := Aside0.mk hl; have HJ := Aside0.mk hj; have HJL := Aside0.mk hjl
    clear hV hI hB hs hl hj hjl
    go_enter Try.func63, Try.ntmps63
    go_wp2
    go_loopg [] (2 * n + 1) (fun kq W1 => ∃ (x : Int) (vs1 : List Int) (s1 : σ), Aside0 (x + kq = n + 1) ∧ Aside0 (-(n : Int) ≤ x) ∧ Aside0 (VS gm gt gv gn gy ga cv (.func (.func 38) #[] #[u1, u2]) many n W1 vs1) ∧ Aside0 (vs1.take j = vs.take j) ∧ Aside0 (rd vs1 (j : Int) = x) ∧ Aside0 (I s1 W1) ∧ Aside0 (Below w.heap.size w W1) ∧ Aside0 (vecL (fun x s => vecR step n r (vs.take j ++ [x]) s) kq x s1 = some s'))
    case atStart =>
      exact ⟨-(n : Int), vs.set j (-(n : Int)), s, ⟨by omega⟩, ⟨Int.le_refl _⟩, HP, ⟨by rw [List.take_set_of_le (Nat.le_refl _)]⟩, ⟨by unfold rd; simp [HJL.out]⟩, HIW, HB, HS⟩
    case round =>
      clear hx0 hf0 c1 c3 c4 HP HIW HB HS
      obtain ⟨x, vs1, s1, HX, HX0, HV1, HT1, HR, HI1, HB1, HS1⟩ := hrel
      have hl1 := HV1.out.len
      have hj1 : j < vs1.length := by have := HJL.out; have := HL.out; omega
      obtain ⟨hx0, hf0⟩ := Kd.R_celln 0 HV1.out.row (j : Int) (by omega) (by omega)
      have hx0 : wr.cell? ⟨ga, j, none⟩ = some (.int .i64 x) := by have h_ : wr.cell? ⟨ga, j, none⟩ = some (.int .i64 (rd vs1 (j : Int))) := hx0; rw [HR.out] at h_; exact h_
      have hf0 : wr.frozen? ⟨ga, j, none⟩ = false := hf0
      have c3 := cell_of_one HV1.out.bv; have c4 := cell_of_one HV1.out.bn; have c5 := cell_of_one HV1.out.bf
      have LT1 := Aside0.mk hj1; clear hl1 hj1
      cases gk with
      | zero =>
        have cx : decide (x ≤ (n : Int)) = false := decide_eq_false (by have := HX.out; omega)
        have H := HS1.out; simp only [vecL] at H; have H := Option.some.inj H; subst H
        go_wp2
        go_quiet (fail)
        go_wp2
        go_end0
        exact ⟨rfl, ⟨vs1, HT1.out, HV1.out.below (FU (Aside0.mk (Below.refl _ _)))⟩, HD _ _ _ HI1.out (FU (Aside0.mk (Below.refl _ _))), below_step HB1.out (FU (Aside0.mk (Below.refl _ _)))⟩
      | succ c =>
        have cx : decide (x ≤ (n : Int)) = true := decide_eq_true (by have := HX.out; omega)
        have H := HS1.out; clear HS1; simp only [vecL] at H; obtain ⟨s2, A2, H⟩ := bnd H
        have HQ := Aside0.mk (fun nq : Nat => ih (j + 1) ((j : Int) + 1) (wr.drewN nq) vs1 s1 s2 (by omega) (by have := HJ.out; omega) (HV1.out.below (pw_below_drewN (Below.refl _ _) nq)) (HD _ _ _ HI1.out (pw_below_drewN (Below.refl _ _) nq)) (below_step HB1.out (pw_below_drewN (Below.refl _ _) nq)) (by rw [rd_take LT1.out, HT1.out, HR.out]; exact A2.out))
        have HN := Aside0.mk H; clear H
        have bj : (j : Int) ≤ 1000 := by have := HJ.out; omega
        go_wp2
        go_quiet (fail)
        go_wp2_with (go_at_call 63; refine (HQ.out _).mono ?_; rintro e w2 ⟨rfl, ⟨vs2, ht2, hV2⟩, hI2, hB2⟩; have e2 : rd vs2 (j : Int) = x ∧ vs2.take j = vs.take j := (by rw [rd_take LT1.out, HT1.out, HR.out, rd_take (by rw [← hV2.len]; have := HJ.out; omega)] at ht2; have h1 := List.append_inj' ht2 rfl; exact ⟨by simpa using h1.2, h1.1⟩); have HV2 := Aside0.mk (hV2.put hne j (x + 1)); have HT2 := Aside0.mk e2.2; have HI2 := Aside0.mk (HI s2 w2 j (.int .i64 (x + 1)) hI2); have HB2 := Aside0.mk (below_set hB2 hga : Below w.heap.size w (w2.setCell ⟨ga, j, none⟩ (.int .i64 (x + 1)))); have LT2 := Aside0.mk (show j < vs2.length by rw [← hV2.len]; have := HJ.out; omega); obtain ⟨hy0, hg0⟩ := Kd.R_celln 0 hV2.row (j : Int) (by omega) (by have := HJ.out; omega); have hy0 : w2.cell? ⟨ga, j, none⟩ = some (.int .i64 x) := (by have h_ : w2.cell? ⟨ga, j, none⟩ = some (.int .i64 (rd vs2 (j : Int))) := hy0; rw [e2.1] at h_; exact h_); have hg0 : w2.frozen? ⟨ga, j, none⟩ = false := hg0; have d3 := cell_of_one hV2.bv; have b1 : x ≤ 1000 := (by have := HX.out; omega); have b2 : -1000 ≤ x := (by have := HX0.out; omega); clear ht2 e2 hV2 hI2 hB2)
        go_roundg c
        case measure => omega
        case rel => exact ⟨x + 1, vs2.set j (x + 1), s2, ⟨by have := HX.out; omega⟩, ⟨by have := HX0.out; omega⟩, HV2, ⟨by rw [List.take_set_of_le (Nat.le_refl _)]; exact HT2.out⟩, ⟨by have := LT2.out; unfold rd; simp [this]⟩, HI2, HB2, HN⟩
set_option maxHeartbeats 4000000 in
set_option maxRecDepth 100000 in
theorem impl_vectors.calls {σ : Type} (I : σ → World → Prop) (step : List Int → σ → Option σ) (w W : World) (many n : Nat) (u1 u2 : Value) (s s' : σ) (hm : many ≤ 1000) (hn6 : n ≤ 1000) (hB : Below w.heap.size w W) (hI : I s W)
    (HT : ∀ gm gt gv gn gy ga cv, (∀ g, (g = gm ∨ g = gt ∨ g = gv ∨ g = gn ∨ g = gy ∨ g = ga) → W.heap.size ≤ g) → ∀ W1 vs s s', VS gm gt gv gn gy ga cv (.func (.func 38) #[] #[u1, u2]) many n W1 vs → I s W1 → Below w.heap.size w W1 → step vs s = some s' →
      Calls Try.prog 38 #[.slice (some ⟨ga, 0, none⟩) many cv, u1, u2] W1 fun e W' => e = .returned (.tuple #[]) ∧ VS gm gt gv gn gy ga cv (.func (.func 38) #[] #[u1, u2]) many n W' vs ∧ I s' W' ∧ Below w.heap.size w W')
    (HI : ∀ s W1 g i x, W.heap.size ≤ g → I s W1 → I s (W1.setCell ⟨g, i, none⟩ x)) (HD : ∀ s W1 W', I s W1 → Below W1.heap.size W1 W' → I s W') (hs : vecR step n many [] s = some s') (hp : 0 < many) :
    Calls Try.prog 37 #[.int .i64 (many : Int), .int .i64 (n : Int), .func (.func 38) #[] #[u1, u2]] W fun e W' => e = .returned (.tuple #[]) ∧ I s' W' ∧ Below w.heap.size w W' := by
  have F0 := Aside0.mk (Below.refl W.heap.size W); have HB0 := Aside0.mk hB; have HI0 := Aside0.mk hI; have HS := Aside0.mk hs; have HP0 := Aside0.mk hp
  have bm0 : (0 : Int) ≤ (many : Int) := by omega
  have bm1 : (many : Int) ≤ 1000 := by omega
  clear hB hI hs hp; go_enter Try.func37, Try.ntmps37
  go_wp2_with (first | ((with_reducible refine gate_dst (N := 3) rfl ?_); refine boxE (N := 3) (cs := #[.int .i64 (many : Int)]) (t := 3) ?_; intro gm hg w1 hbox hb; have BM := Aside0.mk hbox; have GM := Aside0.mk (show W.heap.size ≤ gm by rw [hg]; exact (FU F0).size); replace F0 := FS F0 hb; clear hb hbox hg) | ((with_reducible refine gate_dst (N := 4) rfl ?_); refine boxE (N := 4) (cs := #[.int .i64 (n : Int)]) (t := 3) ?_; intro gn hg w2 hbox hb; have BN := Aside0.mk hbox; have GN := Aside0.mk (show W.heap.size ≤ gn by rw [hg]; exact (FU F0).size); replace BM := bB BM hb; replace F0 := FS F0 hb; clear hb hbox hg) | ((with_reducible refine gate_dst (N := 5) rfl ?_); refine boxE (N := 5) (cs := #[.func (.func 38) #[] #[u1, u2]]) (t := 51) ?_; intro gt hg w3 hbox hb; have BT := Aside0.mk hbox; have GT := Aside0.mk (show W.heap.size ≤ gt by rw [hg]; exact (FU F0).size); replace BM := bB BM hb; replace BN := bB BN hb; replace F0 := FS F0 hb; clear hb hbox hg; have c1 := cell_of_one BM.out) | ((with_reducible refine gate_dst (N := 9) rfl ?_); refine Kd.R_make (Kd.int .i64) _ 3 rfl (N := 9) rfl 23 _ _ rfl (many : Int) rfl rfl Try.underlying23 (.int .i64 0) 8 info3 rfl (by decide) (by omega) 0 (ok := fun _ => True) (okp := fun _ => True) rfl (fun _ hk => hk) trivial (by omega) (by omega) (Below.refl _ _) (Nat.le_refl _) ?_; intro v9 w4 ho hb hg_ hnew_; clear hg_ hnew_; simp only [Int.toNat_natCast] at ho; have HR := Aside0.mk (Kd.R_lower ho (FU F0).size); obtain ⟨ga, cv, ee, gbe, gle, HGe⟩ := Kd.R_form ho (by rw [List.length_replicate]; exact HP0.out); rw [List.length_replicate] at ee; subst ee; have NAM := Aside0.mk (show gm ≠ ga from Nat.ne_of_lt (Nat.lt_of_lt_of_le (blk_lt BM.out) gbe)); have NAN := Aside0.mk (show gn ≠ ga from Nat.ne_of_lt (Nat.lt_of_lt_of_le (blk_lt BN.out) gbe)); have NAT := Aside0.mk (show gt ≠ ga from Nat.ne_of_lt (Nat.lt_of_lt_of_le (blk_lt BT.out) gbe)); have GA := Aside0.mk (Nat.le_trans (FU F0).size gbe); have LA := Aside0.mk gle; replace BM := bB BM hb; replace BN := bB BN hb; replace BT := bB BT hb; replace F0 := FS F0 hb; clear hb ho gbe gle HGe) | ((with_reducible refine gate_dst (N := 6) rfl ?_); refine boxE (N := 6) (cs := #[.slice none 0 0]) (t := 23) ?_; intro gv hg w5 hbox hb; have BV := Aside0.mk hbox; have GV := Aside0.mk (show W.heap.size ≤ gv by rw [hg]; exact (FU F0).size); have NAV := Aside0.mk (show gv ≠ ga by rw [hg]; exact Nat.ne_of_gt LA.out); have NVM := NG BM hg; have NVN := NG BN hg; have NVT := NG BT hg; replace HR := Aside0.mk (Kd.R_below (U HR.out) hb); replace BM := bB BM hb; replace BN := bB BN hb; replace BT := bB BT hb; replace F0 := FS F0 hb; clear hb hbox hg; have c5 := cell_of_one BV.out; have f5 := free_of_one BV.out) | ((with_reducible refine gate_dst (N := 7) rfl ?_); refine boxE (N := 7) (cs := #[.nilFunc]) (t := 65) ?_; intro gy hg w6 hbox hb; have BY := Aside0.mk hbox; replace hg : gy = w5.heap.size := (by rw [hg]; simp); have GY := Aside0.mk (show W.heap.size ≤ gy by rw [hg]; exact (FU F0).size); have NAY := Aside0.mk (show gy ≠ ga by rw [hg]; have := blk_lt BV.out; have := NAV.out; exact Nat.ne_of_gt (Kd.R_lt HR.out ga rfl)); have NYM := Aside0.mk (show gm ≠ gy by rw [hg]; exact Nat.ne_of_lt (blk_lt BM.out)); have NYN := Aside0.mk (show gn ≠ gy by rw [hg]; exact Nat.ne_of_lt (blk_lt BN.out)); have NYT := Aside0.mk (show gt ≠ gy by rw [hg]; exact Nat.ne_of_lt (blk_lt BT.out)); have NYV := Aside0.mk (show gv ≠ gy by rw [hg]; exact Nat.ne_of_lt (blk_lt BV.out)); replace HR := Aside0.mk (Kd.R_below (Kd.R_far (p := ⟨gv, 0, none⟩) (Kd.R_types HR.out BV.out (by decide)) (fun _ hk => hk.2) (.slice (some ⟨ga, 0, none⟩) many cv)) hb); have q1_ := Aside0.mk (blk_below (blk_far (p := ⟨gv, 0, none⟩) BM.out NVM.out.symm (.slice (some ⟨ga, 0, none⟩) many cv)) hb); have q2_ := Aside0.mk (blk_below (blk_far (p := ⟨gv, 0, none⟩) BN.out NVN.out.symm (.slice (some ⟨ga, 0, none⟩) many cv)) hb); have q3_ := Aside0.mk (blk_below (blk_far (p := ⟨gv, 0, none⟩) BT.out NVT.out.symm (.slice (some ⟨ga, 0, none⟩) many cv)) hb); have q4_ := Aside0.mk (blk_below (show (w5.setCell ⟨gv, 0, none⟩ (.slice (some ⟨ga, 0, none⟩) many cv)).heap[gv]? = some (.cells #[.slice (some ⟨ga, 0, none⟩) many cv] 23 (0, 0)) from one_setCell BV.out) hb); replace F0 := Aside0.mk (below_step (below_set F0.out GV.out) hb); clear BM BN BT BV hb hbox hg c1 c5 f5; have BM := q1_; have BN := q2_; have BT := q3_; have BV := q4_; clear q1_ q2_ q3_ q4_; have GALL := Aside0.mk (show ∀ g, (g = gm ∨ g = gt ∨ g = gv ∨ g = gn ∨ g = gy ∨ g = ga) → W.heap.size ≤ g from (by intro g h; rcases h with h | h | h | h | h | h; (rw [h]; exact GM.out); (rw [h]; exact GT.out); (rw [h]; exact GV.out); (rw [h]; exact GN.out); (rw [h]; exact GY.out); (rw [h]; exact GA.out))); have c7 := cell_of_one BY.out; have f7 := free_of_one BY.out) | (go_at_call 63; refine (vectors_try I step w gm gt gv gn gy ga cv many n u1 u2 hm hn6 ⟨NAM.out, NAT.out, NAV.out, NAN.out, NAY.out⟩ (Nat.le_trans HB0.out.size GA.out) (HT gm gt gv gn gy ga cv GALL.out) (fun s W1 i x h => HI s W1 ga i x GA.out h) HD many 0 0 _ (List.replicate many 0) s s' rfl (Nat.zero_add _) ⟨blk_far BM.out NYM.out _, blk_far BT.out NYT.out _, blk_far BV.out NYV.out _, blk_far BN.out NYN.out _, one_setCell BY.out, Kd.R_lower (Kd.R_mono (Kd.R_far (p := ⟨gy, 0, none⟩) (Kd.R_types HR.out BY.out (by decide)) (fun _ hk => hk.2) _) (fun _ _ => trivial)) (Nat.zero_le _)⟩ (HI s _ gy 0 _ GY.out (HD s W _ HI0.out F0.out)) (below_set (below_step HB0.out F0.out) (Nat.le_trans HB0.out.size GY.out)) HS.out).mono ?_; rintro e w7 ⟨rfl, _, hI7, hB7⟩; have HI7 := Aside0.mk hI7; have HB7 := Aside0.mk hB7; clear hI7 hB7))
  go_end0
  exact ⟨rfl, HI7.out, HB7.out⟩
/-- What the closure of impl.ZeroMany does to the count. -/
def impl_ZeroMany.t (k : Nat) (form h : List Int) (c : Int) : Option Int :=
  (impl_pair.f k form h h).bind fun q => if q = 0 then ((impl_gcd.f k h).bind fun g => if g = 0 then some c else ((impl_plain.f k h).bind fun p => ((slices_Equal_int_int.f k p h).bind fun e => if e = true then (if 0 ≤ c ∧ c < 1000000000 then some (c + 1) else none) else some c))) else some c
/-- What the closure finds. -/
def ZI (g2 g5 : Nat) (A0 : Option Addr) (c0 : Nat) (l0 : List Int) (c : Int) (W : World) : Prop :=
  W.heap[g2]? = some (.cells #[.slice A0 l0.length c0] 23 (0, 0)) ∧ W.heap[g5]? = some (.cells #[.int .i64 c] 3 (0, 0))
theorem ZI.below {g2 g5 : Nat} {A0 : Option Addr} {c0 : Nat} {l0 : List Int} {c : Int} {W W' : World} (h : ZI g2 g5 A0 c0 l0 c W) (hb : Below W.heap.size W W') : ZI g2 g5 A0 c0 l0 c W' := ⟨blk_below h.1 hb, blk_below h.2 hb⟩
theorem ZI.far {g2 g5 g : Nat} {i : Nat} {x : Value} {A0 : Option Addr} {c0 : Nat} {l0 : List Int} {c : Int} {W : World} (h : ZI g2 g5 A0 c0 l0 c W) (n2 : g2 ≠ g) (n5 : g5 ≠ g) : ZI g2 g5 A0 c0 l0 c (W.setCell ⟨g, i, none⟩ x) := ⟨blk_far h.1 n2 _, blk_far h.2 n5 _⟩
set_option maxHeartbeats 4000000 in
set_option maxRecDepth 100000 in
theorem impl_ZeroMany.tell (k : Nat) (A0 : Option Addr) (c0 : Nat) (l0 : List Int) (w : World) (hr0 : Kd.C (Kd.int .i64) w A0 l0.length l0) (hc0 : l0.length ≤ c0)
    (g2 g5 : Nat) (hne : g2 ≠ g5) (h5 : w.heap.size ≤ g5) (gm gt gv gn gy ga cv m n : Nat) (hal : ∀ g, (g = gm ∨ g = gt ∨ g = gv ∨ g = gn ∨ g = gy ∨ g = ga) → g ≠ g5) (tell : Value) (W : World) (vs : List Int) (s s' : Int) (hV : VS gm gt gv gn gy ga cv tell m n W vs) (hI : ZI g2 g5 A0 c0 l0 s W) (hB : Below w.heap.size w W) (h : impl_ZeroMany.t k l0 vs s = some s') :
    Calls Try.prog 38 #[.slice (some ⟨ga, 0, none⟩) m cv, .pointer (some ⟨g2, 0, none⟩), .pointer (some ⟨g5, 0, none⟩)] W fun e W' => e = .returned (.tuple #[]) ∧ VS gm gt gv gn gy ga cv tell m n W' vs ∧ ZI g2 g5 A0 c0 l0 s' W' ∧ Below w.heap.size w W' := by
  obtain rfl := hV.len
  have HR0 := Aside0.mk hr0; have HC0 := Aside0.mk hc0; clear hr0 hc0
  have HVS := Aside0.mk hV; have HI := Aside0.mk hI; have HB := Aside0.mk hB; have F0 := Aside0.mk (Below.refl W.heap.size W)
  have HVC := Aside0.mk (Kd.R_reads' hV.row).2.2; have HVN := Aside0.mk (Kd.R_reads' hV.row).2.1
  have c2 := cell_of_one hI.1
  clear hV hI hB
  unfold impl_ZeroMany.t at h
  obtain ⟨q, AQ, H⟩ := bnd h; clear h
  by_cases cq : q = 0
  · rw [if_pos cq] at H; have cqb : (q == 0) = true := beq_iff_eq.mpr cq; clear cq
    obtain ⟨g, AG, H1⟩ := bnd H; clear H
    by_cases cg : g = 0
    · rw [if_pos cg] at H1; obtain rfl := Option.some.inj H1; clear H1
      have cgb : (g == 0) = true := beq_iff_eq.mpr cg; have cgn : (g != 0) = false := (by rw [bne, cgb]; rfl); clear cg
      go_enter Try.func38, Try.ntmps38
      go_wp2_with (first | ((with_reducible refine gate_callee (f := 26) rfl ?_); refine goesK (some 7) Try.func26 #[.slice A0 l0.length c0, .slice (some ⟨ga, 0, none⟩) vs.length cv, .slice (some ⟨ga, 0, none⟩) vs.length cv] ?_; (with_reducible refine (impl_pair.calls k _ _ l0 _ _ vs _ _ vs q _ ?side1 ?side2 ?side3 ?side4 ?side5 ?side6 AQ.out).mono ?_); (case side1 => exact Kd.C_below HR0.out (below_step HB.out (FU F0))); (case side2 => exact HC0.out); (case side3 => exact Kd.C_below HVC.out (FU F0)); (case side4 => exact HVN.out); (case side5 => exact Kd.C_below HVC.out (FU F0)); (case side6 => exact HVN.out); rintro e w' ⟨rfl, ⟨nd, rfl⟩⟩; refine ⟨_, rfl, ?_⟩) | ((with_reducible refine gate_callee (f := 25) rfl ?_); (try (refine gate_guard (by rfl) ?_; dsimp only)); refine goesK (some 11) Try.func25 #[.slice (some ⟨ga, 0, none⟩) vs.length cv] ?_; (with_reducible refine (impl_gcd.calls k _ _ vs g _ ?side1 ?side2 AG.out).mono ?_); (case side1 => exact Kd.C_below HVC.out (FU F0)); (case side2 => exact HVN.out); rintro e w1 ⟨rfl, hb⟩; refine ⟨_, rfl, ?_⟩; replace F0 := FS F0 hb; clear hb))
      go_end0
      exact ⟨rfl, HVS.out.below (FU F0), HI.out.below (FU F0), below_step HB.out (FU F0)⟩
    rw [if_neg cg] at H1; have cgb : (g == 0) = false := beq_eq_false_iff_ne.mpr cg; have cgn : (g != 0) = true := (by rw [bne, cgb]; rfl); clear cg
    obtain ⟨p, AP, H2⟩ := bnd H1; clear H1; obtain ⟨b, AB, H⟩ := bnd H2; clear H2
    go_enter Try.func38, Try.ntmps38
    go_upto_if 19 with (first | ((with_reducible refine gate_callee (f := 26) rfl ?_); refine goesK (some 7) Try.func26 #[.slice A0 l0.length c0, .slice (some ⟨ga, 0, none⟩) vs.length cv, .slice (some ⟨ga, 0, none⟩) vs.length cv] ?_; (with_reducible refine (impl_pair.calls k _ _ l0 _ _ vs _ _ vs q _ ?side1 ?side2 ?side3 ?side4 ?side5 ?side6 AQ.out).mono ?_); (case side1 => exact Kd.C_below HR0.out (below_step HB.out (FU F0))); (case side2 => exact HC0.out); (case side3 => exact Kd.C_below HVC.out (FU F0)); (case side4 => exact HVN.out); (case side5 => exact Kd.C_below HVC.out (FU F0)); (case side6 => exact HVN.out); rintro e w' ⟨rfl, ⟨nd, rfl⟩⟩; refine ⟨_, rfl, ?_⟩) | ((with_reducible refine gate_callee (f := 25) rfl ?_); (try (refine gate_guard (by rfl) ?_; dsimp only)); refine goesK (some 11) Try.func25 #[.slice (some ⟨ga, 0, none⟩) vs.length cv] ?_; (with_reducible refine (impl_gcd.calls k _ _ vs g _ ?side1 ?side2 AG.out).mono ?_); (case side1 => exact Kd.C_below HVC.out (FU F0)); (case side2 => exact HVN.out); rintro e w1 ⟨rfl, hb⟩; refine ⟨_, rfl, ?_⟩; replace F0 := FS F0 hb; clear hb) | ((with_reducible refine gate_callee (f := 40) rfl ?_); (try (refine gate_guard (by rfl) ?_; dsimp only)); refine goesK (some 16) Try.func40 #[.slice (some ⟨ga, 0, none⟩) vs.length cv] ?_; (with_reducible refine (impl_plain.calls k _ _ vs p _ ?side1 ?side2 AP.out).mono ?_); (case side1 => exact Kd.C_below HVC.out (FU F0)); (case side2 => exact HVN.out); rintro e w2 ⟨v16, rfl, ho0, hb⟩; refine ⟨_, rfl, ?_⟩; have HP := Aside0.mk (Kd.R_lower ho0 (FU F0).size); replace F0 := FS F0 hb; clear hb ho0; obtain ⟨Ap, cp, ep⟩ := Kd.R_slice HP.out; subst ep) | ((with_reducible refine gate_callee (f := 39) rfl ?_); (try (refine gate_guard (by rfl) ?_; dsimp only)); refine goesK (some 18) Try.func39 #[.slice Ap p.length cp, .slice (some ⟨ga, 0, none⟩) vs.length cv] ?_; (with_reducible refine (slices_Equal_int_int.calls k _ _ p _ _ vs b _ ?side1 ?side2 ?side3 ?side4 AB.out).mono ?_); (case side1 => exact (Kd.R_reads' HP.out).2.2); (case side2 => exact (Kd.R_reads' HP.out).2.1); (case side3 => exact Kd.C_below HVC.out (FU F0)); (case side4 => exact HVN.out); rintro e w' ⟨rfl, ⟨nd, rfl⟩⟩; refine ⟨_, rfl, ?_⟩))
    by_cases cb : b = true
    · subst cb; replace H := ifT H; obtain ⟨⟨s0, s1⟩, H⟩ := ifN H; have HS := Option.some.inj H; clear H; subst HS
      have F1 : Below W.heap.size W (w2.drewN nd) := FU F0
      have HI1 := HI.out.below F1
      have c5 := cell_of_one HI1.2; have f5 := free_of_one HI1.2
      have HV1 := Aside0.mk (HVS.out.below F1); have HB1 := Aside0.mk (below_step HB.out F1); have HI2 := Aside0.mk HI1; clear HI1 F1
      go_wp2
      go_end0
      exact ⟨rfl, HV1.out.same (bad := fun k => k = g5) (Same.set (bad := fun k => k = g5) (Same.below (Below.refl _ _)) (p := ⟨g5, 0, none⟩) (.inr rfl) _) (fun g hg => hal g hg), ⟨blk_far HI2.out.1 hne _, one_setCell HI2.out.2⟩, below_set HB1.out h5⟩
    replace cb := Bool.eq_false_iff.mpr cb; subst cb; replace H := ifF H; obtain rfl := Option.some.inj H; clear H
    go_wp2
    go_end0
    exact ⟨rfl, HVS.out.below (FU F0), HI.out.below (FU F0), below_step HB.out (FU F0)⟩
  rw [if_neg cq] at H; obtain rfl := Option.some.inj H; clear H
  have cqb : (q == 0) = false := beq_eq_false_iff_ne.mpr cq; clear cq
  go_enter Try.func38, Try.ntmps38
  go_wp2_with (first | ((with_reducible refine gate_callee (f := 26) rfl ?_); refine goesK (some 7) Try.func26 #[.slice A0 l0.length c0, .slice (some ⟨ga, 0, none⟩) vs.length cv, .slice (some ⟨ga, 0, none⟩) vs.length cv] ?_; (with_reducible refine (impl_pair.calls k _ _ l0 _ _ vs _ _ vs q _ ?side1 ?side2 ?side3 ?side4 ?side5 ?side6 AQ.out).mono ?_); (case side1 => exact Kd.C_below HR0.out (below_step HB.out (FU F0))); (case side2 => exact HC0.out); (case side3 => exact Kd.C_below HVC.out (FU F0)); (case side4 => exact HVN.out); (case side5 => exact Kd.C_below HVC.out (FU F0)); (case side6 => exact HVN.out); rintro e w' ⟨rfl, ⟨nd, rfl⟩⟩; refine ⟨_, rfl, ?_⟩))
  go_end0
  exact ⟨rfl, HVS.out.below (FU F0), HI.out.below (FU F0), below_step HB.out (FU F0)⟩
def impl_ZeroMany.f (k : Nat) (l0 : List Int) (a1 : Int) : Option Int :=
  (impl_FormValid.f k l0).bind fun t => if t = true then (if a1 < 1 then some (-1) else (if a1 > 6 then some (-1) else (if 0 < l0.length ∧ l0.length ≤ 1000 then vecR (impl_ZeroMany.t k l0) a1.toNat l0.length [] 0 else none))) else some (-1)
theorem vecL_mono {σ : Type} {f g : Int → σ → Option σ} (h : ∀ x s, LeO (f x s) (g x s)) : ∀ c x s, LeO (vecL f c x s) (vecL g c x s)
  | 0, _, _ => LeO.refl _
  | c + 1, x, s => by unfold vecL; exact LeO.bind (h x s) (fun s => vecL_mono h c (x + 1) s)
theorem vecR_mono {σ : Type} {f g : List Int → σ → Option σ} (h : ∀ p s, LeO (f p s) (g p s)) (n : Nat) : ∀ m p s, LeO (vecR f n m p s) (vecR g n m p s)
  | 0, p, s => h p s
  | m + 1, p, s => by unfold vecR; exact vecL_mono (fun x s => vecR_mono h n m (p ++ [x]) s) _ _ _
theorem impl_ZeroMany.t_mono (k : Nat) (l0 h : List Int) (s : Int) : LeO (impl_ZeroMany.t k l0 h s) (impl_ZeroMany.t (k + 1) l0 h s) := by
  unfold impl_ZeroMany.t
  with_reducible repeat' first | exact impl_pair.mono _ _ _ _ | exact impl_gcd.mono _ _ | exact impl_plain.mono _ _ | exact slices_Equal_int_int.mono _ _ _ | exact LeO.refl _ | exact LeO.none _ | refine LeO.ite ?_ ?_ | refine LeO.bind ?_ (fun _ => ?_)
theorem impl_ZeroMany.mono : ∀ a0 a1 k, LeO (impl_ZeroMany.f k a0 a1) (impl_ZeroMany.f (k + 1) a0 a1) := by
  intro a0 a1 k
  unfold impl_ZeroMany.f
  refine LeO.bind (impl_FormValid.mono _ _) (fun _ => LeO.ite (LeO.ite (LeO.refl _) (LeO.ite (LeO.refl _) (LeO.ite (vecR_mono (fun p s => impl_ZeroMany.t_mono k a0 p s) _ _ _ _) (LeO.refl _)))) (LeO.refl _))
set_option maxHeartbeats 4000000 in
set_option maxRecDepth 100000 in
theorem impl_ZeroMany.calls (k : Nat) (A0 : Option Addr) (c0 : Nat) (l0 : List Int) (a1 : Int) (r : Int) (w : World) (hr0 : Kd.C (Kd.int .i64) w A0 l0.length l0) (hc0 : l0.length ≤ c0) (h : impl_ZeroMany.f k l0 a1 = some r) :
    Calls Try.prog 13 #[.slice A0 l0.length c0, .int .i64 a1] w fun e w' => e = .returned (.int .i64 r) ∧ Below w.heap.size w w' := by
  have HR0 := Aside0.mk hr0; have HC0 := Aside0.mk hc0; clear hr0 hc0; have F0 := Aside0.mk (Below.refl w.heap.size w); unfold impl_ZeroMany.f at h; obtain ⟨t, AT, H⟩ := bnd h; clear h
  by_cases ct : t = true
  · subst ct; replace H := ifT H
    by_cases e1 : a1 < 1
    · rw [if_pos e1] at H; obtain rfl := Option.some.inj H; clear H
      have cb1 : decide (a1 < 1) = true := decide_eq_true e1; go_enter Try.func13, Try.ntmps13
      go_upto_if 16 with (first | ((with_reducible refine gate_dst (N := 2) rfl ?_); refine boxE (N := 2) (cs := #[.slice A0 l0.length c0]) (t := 23) ?_; intro g2 hg w1 hbox hb; have B2 := Aside0.mk hbox; replace F0 := FS F0 hb; clear hb hbox hg; have d2 := cell_of_one B2.out) | ((with_reducible refine gate_callee (f := 20) rfl ?_); refine goesK (some 7) Try.func20 #[.slice A0 l0.length c0] ?_; (with_reducible refine (impl_FormValid.calls k _ _ l0 _ _ ?side1 ?side2 AT.out).mono ?_); (case side1 => exact Kd.C_below HR0.out (FU F0)); (case side2 => exact HC0.out); rintro e w3 ⟨rfl, hb⟩; refine ⟨_, rfl, ?_⟩; replace B2 := bB B2 hb; replace F0 := FS F0 hb; clear hb d2; have d2 := cell_of_one B2.out))
      go_wp2
      go_ret
      exact ⟨rfl, FU F0⟩
    rw [if_neg e1] at H; have cb1 : decide (a1 < 1) = false := decide_eq_false e1
    by_cases e6 : a1 > 6
    · rw [if_pos e6] at H; obtain rfl := Option.some.inj H; clear H
      have cb6 : decide (6 < a1) = true := decide_eq_true e6; go_enter Try.func13, Try.ntmps13
      go_upto_if 16 with (first | ((with_reducible refine gate_dst (N := 2) rfl ?_); refine boxE (N := 2) (cs := #[.slice A0 l0.length c0]) (t := 23) ?_; intro g2 hg w1 hbox hb; have B2 := Aside0.mk hbox; replace F0 := FS F0 hb; clear hb hbox hg; have d2 := cell_of_one B2.out) | ((with_reducible refine gate_callee (f := 20) rfl ?_); refine goesK (some 7) Try.func20 #[.slice A0 l0.length c0] ?_; (with_reducible refine (impl_FormValid.calls k _ _ l0 _ _ ?side1 ?side2 AT.out).mono ?_); (case side1 => exact Kd.C_below HR0.out (FU F0)); (case side2 => exact HC0.out); rintro e w3 ⟨rfl, hb⟩; refine ⟨_, rfl, ?_⟩; replace B2 := bB B2 hb; replace F0 := FS F0 hb; clear hb d2; have d2 := cell_of_one B2.out))
      go_wp2
      go_ret
      exact ⟨rfl, FU F0⟩
    rw [if_neg e6] at H; have cb6 : decide (6 < a1) = false := decide_eq_false e6; obtain ⟨⟨n0, n1⟩, AS⟩ := ifN H; clear H; have AS := Aside0.mk AS; have N2 := Aside0.mk (show ((a1.toNat : Nat) : Int) = a1 by omega); have N5 := Aside0.mk (show a1.toNat ≤ 1000 by omega); have N0 := Aside0.mk n0; have N1 := Aside0.mk n1; clear e1 e6 n0 n1; go_enter Try.func13, Try.ntmps13
    go_upto_if 16 with (first | ((with_reducible refine gate_dst (N := 2) rfl ?_); refine boxE (N := 2) (cs := #[.slice A0 l0.length c0]) (t := 23) ?_; intro g2 hg w1 hbox hb; have B2 := Aside0.mk hbox; replace F0 := FS F0 hb; clear hb hbox hg; have d2 := cell_of_one B2.out) | ((with_reducible refine gate_callee (f := 20) rfl ?_); refine goesK (some 7) Try.func20 #[.slice A0 l0.length c0] ?_; (with_reducible refine (impl_FormValid.calls k _ _ l0 _ _ ?side1 ?side2 AT.out).mono ?_); (case side1 => exact Kd.C_below HR0.out (FU F0)); (case side2 => exact HC0.out); rintro e w3 ⟨rfl, hb⟩; refine ⟨_, rfl, ?_⟩; replace B2 := bB B2 hb; replace F0 := FS F0 hb; clear hb d2; have d2 := cell_of_one B2.out))
    go_upto_region 4 with (first | ((with_reducible refine gate_dst (N := 5) rfl ?_); refine boxE (N := 5) (cs := #[.int .i64 0]) (t := 3) ?_; intro g5 hg w6 hbox hb; have B5 := Aside0.mk hbox; have G5 := Aside0.mk (show w.heap.size ≤ g5 by rw [hg]; exact (FU F0).size); have N25 := NL B2 hg; replace B2 := bB B2 hb; replace F0 := FS F0 hb; clear hb hbox hg; have c5 := cell_of_one B5.out; have f5 := free_of_one B5.out))
    have HI := Aside0.mk (show ZI g2 g5 A0 c0 l0 0 (w6.setCell ⟨g5, 0, none⟩ (.int .i64 0)) from ⟨blk_far B2.out N25.out _, one_setCell B5.out⟩); replace F0 := Aside0.mk (below_set F0.out G5.out : Below w.heap.size w (w6.setCell ⟨g5, 0, none⟩ (.int .i64 0))); clear c5 f5 d2; have d2 := cell_of_one HI.out.1
    go_wp2_with (first | ((with_reducible refine gate_callee (f := 37) rfl ?_); refine goesK (some 21) Try.func37 #[.int .i64 (l0.length : Int), .int .i64 a1, .func (.func 38) #[] #[.pointer (some ⟨g2, 0, none⟩), .pointer (some ⟨g5, 0, none⟩)]] ?_; refine calls_of_args (args' := #[.int .i64 ((l0.length : Nat) : Int), .int .i64 ((a1.toNat : Nat) : Int), .func (.func 38) #[] #[.pointer (some ⟨g2, 0, none⟩), .pointer (some ⟨g5, 0, none⟩)]]) (by rw [N2.out]) ?_; (refine (impl_vectors.calls (ZI g2 g5 A0 c0 l0) (impl_ZeroMany.t k l0) w (w6.setCell ⟨g5, 0, none⟩ (.int .i64 0)) l0.length a1.toNat _ _ 0 r N1.out N5.out F0.out HI.out (fun gm gt gv gn gy ga cv hal W1 vs s s' hV hI hB h => impl_ZeroMany.tell k A0 c0 l0 w HR0.out HC0.out g2 g5 N25.out G5.out gm gt gv gn gy ga cv l0.length a1.toNat (fun g hg => Nat.ne_of_gt (Nat.lt_of_lt_of_le (blk_lt HI.out.2) (hal g hg))) _ W1 vs s s' hV hI hB h) (fun s W1 g i x hg h => h.far (Nat.ne_of_lt (Nat.lt_of_lt_of_le (blk_lt HI.out.1) hg)) (Nat.ne_of_lt (Nat.lt_of_lt_of_le (blk_lt HI.out.2) hg))) (fun s W1 W' h hb => h.below hb) AS.out N0.out).mono ?_); rintro e w7 ⟨rfl, hI7, hB7⟩; refine ⟨_, rfl, ?_⟩; have c7 := cell_of_one hI7.2; have HB7 := Aside0.mk hB7; clear hI7 hB7))
    go_ret
    exact ⟨rfl, HB7.out⟩
  replace ct := Bool.eq_false_iff.mpr ct; subst ct; replace H := ifF H; obtain rfl := Option.some.inj H; clear H; go_enter Try.func13, Try.ntmps13
  go_upto_if 16 with (first | ((with_reducible refine gate_dst (N := 2) rfl ?_); refine boxE (N := 2) (cs := #[.slice A0 l0.length c0]) (t := 23) ?_; intro g2 hg w1 hbox hb; have B2 := Aside0.mk hbox; replace F0 := FS F0 hb; clear hb hbox hg; have d2 := cell_of_one B2.out) | ((with_reducible refine gate_callee (f := 20) rfl ?_); refine goesK (some 7) Try.func20 #[.slice A0 l0.length c0] ?_; (with_reducible refine (impl_FormValid.calls k _ _ l0 _ _ ?side1 ?side2 AT.out).mono ?_); (case side1 => exact Kd.C_below HR0.out (FU F0)); (case side2 => exact HC0.out); rintro e w3 ⟨rfl, hb⟩; refine ⟨_, rfl, ?_⟩; replace B2 := bB B2 hb; replace F0 := FS F0 hb; clear hb d2; have d2 := cell_of_one B2.out))
  go_wp2
  go_ret
  exact ⟨rfl, FU F0⟩

/-! ### spec_l5Some: function 28 -/
def spec_l5Some.l0 : Nat → List Int → Int → Option (Bool)
  | 0, _, _ => none
  | k + 1, x0, x3 => if x3 < (x0.length : Int) then (if 0 ≤ x3 then (if (rd x0 x3) = 0 then (spec_l5Some.l0 k x0 (wrap64 (x3 + 1))) else (some true)) else (none)) else (some false)
def spec_l5Some.f (k : Nat) (l0 : List Int) : Option (Bool) := spec_l5Some.l0 k l0 0
theorem spec_l5Some.mono_l : ∀ k, (∀ y0 y1, LeO (spec_l5Some.l0 k y0 y1) (spec_l5Some.l0 (k + 1) y0 y1))
  | 0 => fun _ _ r h => by simp [spec_l5Some.l0] at h
  | k + 1 => by
    have ih0 := spec_l5Some.mono_l k
    · intro y0 y1
      unfold spec_l5Some.l0
      repeat' first
      | (with_reducible exact ih0 _ _)
      | (with_reducible exact LeO.refl _)
      | (with_reducible exact LeO.none _)
      | (with_reducible refine LeO.ite ?_ ?_)
      | (with_reducible refine LeO.bind ?_ (fun _ => ?_))
      | exact ih0 _ _
      | exact LeO.none _
      | refine LeO.ite ?_ ?_
      | refine LeO.bind ?_ (fun _ => ?_)
theorem spec_l5Some.mono : ∀ a0 k, LeO (spec_l5Some.f k a0) (spec_l5Some.f (k + 1) a0) := by
  intro a0 k
  have ih0 := spec_l5Some.mono_l k
  unfold spec_l5Some.f
  repeat' first
      | (with_reducible exact ih0 _ _)
      | (with_reducible exact LeO.refl _)
      | (with_reducible exact LeO.none _)
      | (with_reducible refine LeO.ite ?_ ?_)
      | (with_reducible refine LeO.bind ?_ (fun _ => ?_))
      | exact ih0 _ _
      | exact LeO.none _
      | refine LeO.ite ?_ ?_
      | refine LeO.bind ?_ (fun _ => ?_)
set_option maxHeartbeats 8000000 in
set_option maxRecDepth 100000 in
theorem spec_l5Some.calls (k : Nat) (A0 : Option Addr) (c0 : Nat) (l0 : List Int) (r : Bool) (w : World) (hr0 : Kd.C (Kd.int .i64) w A0 l0.length l0) (hc0 : l0.length ≤ c0) (h : spec_l5Some.f k l0 = some r) :
    Calls Try.prog 28 #[.slice A0 l0.length c0] w fun e w' => e = .returned (.bool r) ∧ Drawn0 w w' := by
  have HR0 := Aside0.mk hr0; have HC0 := Aside0.mk hc0; clear hr0 hc0; unfold spec_l5Some.f at h; have H := h; clear h; have H' := Aside0.mk H; clear H; go_enter Try.func28, Try.ntmps28
  go_wp2
  go_loopg [3] k (fun kq v3 w' => ∃ (x3_1 : Int), v3 = .int .i64 x3_1 ∧ Aside0 (spec_l5Some.l0 kq l0 x3_1 = some r) ∧ Aside0 (kq ≤ k) ∧ Drawn0 w w')
  case atStart => exact ⟨(0), sR, H', ⟨Nat.le_refl _⟩, by repeat (first | exact Drawn0.refl _ | apply Drawn0.step)⟩
  case round =>
    clear H'; obtain ⟨x3_1, rfl, HA, HK1, ⟨m1, rfl⟩⟩ := hrel; cases gk with
    | zero => exact absurd HA.out (by simp [spec_l5Some.l0])
    | succ k1 =>
      have H := HA.out; clear HA; simp only [spec_l5Some.l0] at H
      by_cases c2 : x3_1 < (l0.length : Int)
      · rw [if_pos c2] at H
        have c2b0 : decide (x3_1 < (l0.length : Int)) = true := decide_eq_true c2; clear c2; obtain ⟨c3, H⟩ := ifN H; have c3b0 : decide (0 ≤ x3_1) = true := decide_eq_true c3; clear c3
        by_cases c4 : (rd l0 x3_1) = 0
        · rw [if_pos c4] at H
          have c4b0 : ((rd l0 x3_1) == 0) = true := beq_iff_eq.mpr c4; have c4b1 : ((rd l0 x3_1) != 0) = false := bne_eq_false_iff_eq.mpr c4; clear c4; have H' := Aside0.mk H; clear H; have p279 : 0 ≤ (x3_1 : Int) := oD; have q279 : x3_1 < (l0.length : Int) := oD; obtain ⟨ad279, e279, hx279_0⟩ := Kd.at_int HR0.out x3_1 p279 q279; cases e279; replace p279 := eq_true p279; replace q279 := eq_true q279
          go_wp2
          go_roundg k1
          case measure => have := HK1.out; omega
          case rel => exact ⟨(wrap64 (x3_1 + 1)), sR, H', ⟨by have := HK1.out; omega⟩, by repeat (first | exact Drawn0.refl _ | apply Drawn0.step)⟩
        rw [if_neg c4] at H; have c4b0 : ((rd l0 x3_1) == 0) = false := beq_eq_false_iff_ne.mpr c4; have c4b1 : ((rd l0 x3_1) != 0) = true := bne_iff_ne.mpr c4; obtain rfl := Option.some.inj H; have p279 : 0 ≤ (x3_1 : Int) := oD; have q279 : x3_1 < (l0.length : Int) := oD; obtain ⟨ad279, e279, hx279_0⟩ := Kd.at_int HR0.out x3_1 p279 q279; cases e279; replace p279 := eq_true p279; replace q279 := eq_true q279
        go_wp2
        go_ret
        exact ⟨by first | rfl | (simp; done) | (simp [*]; done), by repeat (first | exact Drawn0.refl _ | apply Drawn0.step)⟩
      rw [if_neg c2] at H; have c2b0 : decide (x3_1 < (l0.length : Int)) = false := decide_eq_false c2; clear c2; obtain rfl := Option.some.inj H
      go_wp2
      go_ret
      exact ⟨by first | rfl | (simp; done) | (simp [*]; done), by repeat (first | exact Drawn0.refl _ | apply Drawn0.step)⟩

/-! ### spec_l4Value: function 29 -/
def spec_l4Value.l0 : Nat → List Int → List Int → Int → Int → Option (Int)
  | 0, _, _, _, _ => none
  | k + 1, x0, x1, x5, x6 => if x6 < (x0.length : Int) then (if 0 ≤ x6 then (if x6 < (x1.length : Int) then (spec_l4Value.l0 k x0 x1 (wrap64 (x5 + (wrap64 ((wrap64 ((rd x0 x6) * (rd x1 x6))) * (rd x1 x6))))) (wrap64 (x6 + 1))) else (none)) else (none)) else (some x5)
def spec_l4Value.f (k : Nat) (l0 : List Int) (l1 : List Int) : Option (Int) := spec_l4Value.l0 k l0 l1 0 0
theorem spec_l4Value.mono_l : ∀ k, (∀ y0 y1 y2 y3, LeO (spec_l4Value.l0 k y0 y1 y2 y3) (spec_l4Value.l0 (k + 1) y0 y1 y2 y3))
  | 0 => fun _ _ _ _ r h => by simp [spec_l4Value.l0] at h
  | k + 1 => by
    have ih0 := spec_l4Value.mono_l k
    · intro y0 y1 y2 y3
      unfold spec_l4Value.l0
      repeat' first
      | (with_reducible exact ih0 _ _ _ _)
      | (with_reducible exact LeO.refl _)
      | (with_reducible exact LeO.none _)
      | (with_reducible refine LeO.ite ?_ ?_)
      | (with_reducible refine LeO.bind ?_ (fun _ => ?_))
      | exact ih0 _ _ _ _
      | exact LeO.none _
      | refine LeO.ite ?_ ?_
      | refine LeO.bind ?_ (fun _ => ?_)
theorem spec_l4Value.mono : ∀ a0 a1 k, LeO (spec_l4Value.f k a0 a1) (spec_l4Value.f (k + 1) a0 a1) := by
  intro a0 a1 k
  have ih0 := spec_l4Value.mono_l k
  unfold spec_l4Value.f
  repeat' first
      | (with_reducible exact ih0 _ _ _ _)
      | (with_reducible exact LeO.refl _)
      | (with_reducible exact LeO.none _)
      | (with_reducible refine LeO.ite ?_ ?_)
      | (with_reducible refine LeO.bind ?_ (fun _ => ?_))
      | exact ih0 _ _ _ _
      | exact LeO.none _
      | refine LeO.ite ?_ ?_
      | refine LeO.bind ?_ (fun _ => ?_)
set_option maxHeartbeats 8000000 in
set_option maxRecDepth 100000 in
theorem spec_l4Value.calls (k : Nat) (A0 : Option Addr) (c0 : Nat) (l0 : List Int) (A1 : Option Addr) (c1 : Nat) (l1 : List Int) (r : Int) (w : World) (hr0 : Kd.C (Kd.int .i64) w A0 l0.length l0) (hc0 : l0.length ≤ c0) (hr1 : Kd.C (Kd.int .i64) w A1 l1.length l1) (hc1 : l1.length ≤ c1) (h : spec_l4Value.f k l0 l1 = some r) :
    Calls Try.prog 29 #[.slice A0 l0.length c0, .slice A1 l1.length c1] w fun e w' => e = .returned (.int .i64 r) ∧ Drawn0 w w' := by
  have HR0 := Aside0.mk hr0; have HC0 := Aside0.mk hc0; clear hr0 hc0; have HR1 := Aside0.mk hr1; have HC1 := Aside0.mk hc1; clear hr1 hc1; unfold spec_l4Value.f at h; have H := h; clear h; have H' := Aside0.mk H; clear H; go_enter Try.func29, Try.ntmps29
  go_wp2
  repeat (go_quiet (fail); try go_wp2)
  go_loopg [5, 6] k (fun kq v5 v6 w' => ∃ (x5_1 : Int) (x6_1 : Int), v5 = .int .i64 x5_1 ∧ v6 = .int .i64 x6_1 ∧ Aside0 (spec_l4Value.l0 kq l0 l1 x5_1 x6_1 = some r) ∧ Aside0 (kq ≤ k) ∧ Drawn0 w w')
  case atStart => exact ⟨(0), (0), sR, sR, H', ⟨Nat.le_refl _⟩, by repeat (first | exact Drawn0.refl _ | apply Drawn0.step)⟩
  case round =>
    clear H'; obtain ⟨x5_1, x6_1, rfl, rfl, HA, HK1, ⟨m1, rfl⟩⟩ := hrel; cases gk with
    | zero => exact absurd HA.out (by simp [spec_l4Value.l0])
    | succ k1 =>
      have H := HA.out; clear HA; simp only [spec_l4Value.l0] at H
      by_cases c3 : x6_1 < (l0.length : Int)
      · rw [if_pos c3] at H
        have c3b0 : decide (x6_1 < (l0.length : Int)) = true := decide_eq_true c3; clear c3; obtain ⟨c4, H⟩ := ifN H; have c4b0 : decide (0 ≤ x6_1) = true := decide_eq_true c4; clear c4; obtain ⟨c5, H⟩ := ifN H; have c5b0 : decide (x6_1 < (l1.length : Int)) = true := decide_eq_true c5; clear c5; have H' := Aside0.mk H; clear H; have p280 : 0 ≤ (x6_1 : Int) := oD; have q280 : x6_1 < (l0.length : Int) := oD; obtain ⟨ad280, e280, hx280_0⟩ := Kd.at_int HR0.out x6_1 p280 q280; cases e280; replace p280 := eq_true p280; replace q280 := eq_true q280; have p281 : 0 ≤ (x6_1 : Int) := oD; have q281 : x6_1 < (l1.length : Int) := oD; obtain ⟨ad281, e281, hx281_0⟩ := Kd.at_int HR1.out x6_1 p281 q281; cases e281; replace p281 := eq_true p281; replace q281 := eq_true q281; have p282 : 0 ≤ (x6_1 : Int) := oD; have q282 : x6_1 < (l1.length : Int) := oD; obtain ⟨ad282, e282, hx282_0⟩ := Kd.at_int HR1.out x6_1 p282 q282; obtain rfl : ad281 = ad282 := (by injection e282); replace p282 := eq_true p282; replace q282 := eq_true q282
        go_wp2
        repeat (go_quiet (fail); try go_wp2)
        go_roundg k1
        case measure => have := HK1.out; omega
        case rel => exact ⟨(wrap64 (x5_1 + (wrap64 ((wrap64 ((rd l0 x6_1) * (rd l1 x6_1))) * (rd l1 x6_1))))), (wrap64 (x6_1 + 1)), sR, sR, H', ⟨by have := HK1.out; omega⟩, by repeat (first | exact Drawn0.refl _ | apply Drawn0.step)⟩
      rw [if_neg c3] at H; have c3b0 : decide (x6_1 < (l0.length : Int)) = false := decide_eq_false c3; clear c3; obtain rfl := Option.some.inj H
      go_wp2
      repeat (go_quiet (fail); try go_wp2)
      go_ret
      exact ⟨by first | rfl | (simp; done) | (simp [*]; done), by repeat (first | exact Drawn0.refl _ | apply Drawn0.step)⟩

/-! ### spec_l1Gcd: function 68 -/
def spec_l1Gcd.l0 : Nat → Int → Int → Option (Int)
  | 0, _, _ => none
  | k + 1, x0, x1 => if x1 = 0 then (some x0) else (spec_l1Gcd.l0 k x1 (Int.tmod x0 x1))
def spec_l1Gcd.f (k : Nat) (a0 : Int) (a1 : Int) : Option (Int) := (spec_l1Size.f a0).bind fun t283 => ((spec_l1Size.f a1).bind fun t284 => (spec_l1Gcd.l0 k t283 t284))
theorem spec_l1Gcd.mono_l : ∀ k, (∀ y0 y1, LeO (spec_l1Gcd.l0 k y0 y1) (spec_l1Gcd.l0 (k + 1) y0 y1))
  | 0 => fun _ _ r h => by simp [spec_l1Gcd.l0] at h
  | k + 1 => by
    have ih0 := spec_l1Gcd.mono_l k
    · intro y0 y1
      unfold spec_l1Gcd.l0
      repeat' first
      | (with_reducible exact ih0 _ _)
      | (with_reducible exact LeO.refl _)
      | (with_reducible exact LeO.none _)
      | (with_reducible refine LeO.ite ?_ ?_)
      | (with_reducible refine LeO.bind ?_ (fun _ => ?_))
      | exact ih0 _ _
      | exact LeO.none _
      | refine LeO.ite ?_ ?_
      | refine LeO.bind ?_ (fun _ => ?_)
theorem spec_l1Gcd.mono : ∀ a0 a1 k, LeO (spec_l1Gcd.f k a0 a1) (spec_l1Gcd.f (k + 1) a0 a1) := by
  intro a0 a1 k
  have ih0 := spec_l1Gcd.mono_l k
  unfold spec_l1Gcd.f
  repeat' first
      | (with_reducible exact ih0 _ _)
      | (with_reducible exact LeO.refl _)
      | (with_reducible exact LeO.none _)
      | (with_reducible refine LeO.ite ?_ ?_)
      | (with_reducible refine LeO.bind ?_ (fun _ => ?_))
      | exact ih0 _ _
      | exact LeO.none _
      | refine LeO.ite ?_ ?_
      | refine LeO.bind ?_ (fun _ => ?_)
set_option maxHeartbeats 8000000 in
set_option maxRecDepth 100000 in
theorem spec_l1Gcd.calls (k : Nat) (a0 : Int) (a1 : Int) (r : Int) (w : World) (h : spec_l1Gcd.f k a0 a1 = some r) :
    Calls Try.prog 68 #[.int .i64 a0, .int .i64 a1] w fun e w' => e = .returned (.int .i64 r) ∧ Below w.heap.size w w' := by
  have HB := Aside0.mk (Below.refl w.heap.size w); unfold spec_l1Gcd.f at h; have H := h; clear h; obtain ⟨t283, A3, H⟩ := bnd H; obtain ⟨t284, A4, H⟩ := bnd H; have H' := Aside0.mk H; clear H; go_enter Try.func68, Try.ntmps68
  go_wp2_with (first | ((with_reducible refine gate_callee (f := 62) rfl ?_); refine goesK (some 7) Try.func62 #[.int .i64 a0] ?_; (with_reducible refine (spec_l1Size.calls a0 t283 _ A3.out).mono ?_); rintro e w5 ⟨rfl, hb⟩; refine ⟨_, rfl, ?_⟩; replace HB := BS hb; (try clear hb)) | ((with_reducible refine gate_callee (f := 62) rfl ?_); refine goesK (some 9) Try.func62 #[.int .i64 a1] ?_; (with_reducible refine (spec_l1Size.calls a1 t284 _ A4.out).mono ?_); rintro e w6 ⟨rfl, hb⟩; refine ⟨_, rfl, ?_⟩; replace HB := BS hb; (try clear hb)))
  go_loopg [0, 1] k (fun kq v0 v1 w' => ∃ (x0_1 : Int) (x1_1 : Int), v0 = .int .i64 x0_1 ∧ v1 = .int .i64 x1_1 ∧ Aside0 (spec_l1Gcd.l0 kq x0_1 x1_1 = some r) ∧ Aside0 (kq ≤ k) ∧ Aside0 (Below w.heap.size w w'))
  case atStart => exact ⟨(t283), (t284), sR, sR, H', ⟨Nat.le_refl _⟩, ⟨BU⟩⟩
  case round =>
    clear H'; obtain ⟨x0_1, x1_1, rfl, rfl, HA, HK1, HB⟩ := hrel; cases gk with
    | zero => exact absurd HA.out (by simp [spec_l1Gcd.l0])
    | succ k1 =>
      have H := HA.out; clear HA; simp only [spec_l1Gcd.l0] at H
      by_cases c7 : x1_1 = 0
      · rw [if_pos c7] at H
        have c7b0 : (x1_1 == 0) = true := beq_iff_eq.mpr c7; have c7b1 : (x1_1 != 0) = false := bne_eq_false_iff_eq.mpr c7; clear c7; obtain rfl := Option.some.inj H
        go_wp2
        go_ret
        exact ⟨eR, BU⟩
      rw [if_neg c7] at H; have c7b0 : (x1_1 == 0) = false := beq_eq_false_iff_ne.mpr c7; have c7b1 : (x1_1 != 0) = true := bne_iff_ne.mpr c7; have H' := Aside0.mk H; clear H
      go_wp2
      go_roundg k1
      case measure => have := HK1.out; omega
      case rel => exact ⟨(x1_1), (Int.tmod x0_1 x1_1), sR, sR, H', ⟨by have := HK1.out; omega⟩, ⟨BU⟩⟩

end Go.Proofs.Ytpjgcjkodmkemaa.PFnMany
