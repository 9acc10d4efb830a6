-- Written by a program of this session (wip/print2.py): the functions that the law reaches, plain, and the walks.
import Derived.Test.YtnbeeogmaamgdaaPFnOnx0
namespace Go.Proofs.Ytnbeeogmaamgdaa.PFnOn
open Go.RowKit Go.Proofs.YtnbeeogmaamgdaaW.PrintWords Go.Proofs.YtnbeeogmaamgdaaW.PrintLast Go.Proofs.YtnbeeogmaamgdaaW.PrintMore
attribute [local go_sem] max2_int min2_int max_two min_two max_three min_three max_four min_four   -- for this text's walks alone
set_option linter.unusedVariables false
set_option linter.unusedSimpArgs false

/-! ### slices_Clone_int_int: function 66 -/
/-- A copy, in new memory. -/
def slices_Clone_int_int.f (l0 : List Int) : Option (List Int) := if l0.length < 17592186044416 then some l0 else none
set_option maxHeartbeats 4000000 in
set_option maxRecDepth 100000 in
theorem slices_Clone_int_int.calls (A0 : Option Addr) (c0 : Nat) (l0 : List Int) (r : List Int) (w : World) (hr0 : Kd.C (Kd.int .i64) w A0 l0.length l0) (hc0 : l0.length ≤ c0) (h : slices_Clone_int_int.f l0 = some r) :
    Calls Try.prog 66 #[.slice A0 l0.length c0] w fun e w' => ∃ v0_ : Value, e = .returned (v0_) ∧ Kd.R (Kd.int .i64) 3 w' w.heap.size (fun _ => True) v0_ r ∧ Below w.heap.size w w' := by
  have hl : l0.length < 17592186044416 := by
    unfold slices_Clone_int_int.f at h
    split at h
    · assumption
    · cases h
  have hr : l0 = r := by
    unfold slices_Clone_int_int.f at h; rw [if_pos hl] at h
    exact Option.some.inj h
  have LM := Aside0.mk hl; have HR0 := Aside0.mk hr0; have HC0 := Aside0.mk hc0; have HB := Aside0.mk (Below.refl w.heap.size w); clear h hl hc0; cases A0 with
  | none =>
    have hl0 : l0 = [] := by
      rcases Nat.eq_zero_or_pos l0.length with h0 | h0
      · exact List.eq_nil_of_length_eq_zero h0
      · obtain ⟨ad, he, _⟩ := hr0.2.2 h0
        cases he
    subst hl0; subst hr; clear hr0 LM
    have he := fun (w : World) => Go.run_eql_slice_nil (P := Try.prog) w 23 3 none 0 c0 Try.underlying23
    go_enter Try.func66, Try.ntmps66
    go_wp2
    go_ret
    exact ⟨_, rfl, Kd.R_nil _ _ _ _ _, HB.out⟩
  | some ad =>
    subst hr; clear hr0
    have he := fun (w : World) => Go.run_eql_slice_nil (P := Try.prog) w 23 3 (some ad) l0.length c0 Try.underlying23
    go_enter Try.func66, Try.ntmps66
    go_wp2_with (first | ((with_reducible refine gate_dst (N := 5) rfl ?_); refine Kd.R_lit (Kd.int .i64) _ 3 ?hg (N := 5) ?hd (xs := ([] : List Int)) (inner := []) (ok := fun _ => True) (okp := fun _ => True) ?hr ?hp (fun _ hk => hk) trivial (Below.refl _ _) (Nat.le_refl _) (by simp) ?_; (case hd => rfl); (case hg => rfl); (case hr => first | (go_simp; done) | (go_simp; rfl)); (case hp => exact (Reps.none _ _)); intro v1 w4 ho5 hb hg_ hnew_; clear hg_ hnew_; have n0_ := Aside0.mk ho5; have n1_ := Aside0.mk hb; try clear HB; have HO := n0_; have HB := n1_; clear n0_ n1_ hb ho5) | ((with_reducible refine gate_builtin (b := .append) (xs := #[.tmp 5, .tmp 6]) rfl ?_); at_builtin; refine Kd.R_append_rows (Kd.int .i64) (w0 := w) w.heap.size rfl (.tmp 5) (.tmp 6) 23 3 (.int .i64 0) 8 rfl Try.underlying23 info3 rfl (by decide) (by omega) v1 [] l0 _ _ _ (fun _ => True) (fun _ => False) rfl rfl ?aO ?aR (fun _ _ h => h) (fun _ h => h.elim) ?aF ?aB ?aS ?aL ?_; (case aR => exact Kd.C_below HR0.out HB.out); (case aB => exact HB.out); (case aF => exact (fun _ _ => trivial)); (case aO => exact HO.out); (case aS => exact below_size HB.out); (case aL => have := LM.out; simp; omega); intro v126 w29 ho hb hg hat; have n1_ := Aside0.mk hb; have n2_ := Aside0.mk ho; clear HB HO; have HB := n1_; have HO := n2_; clear n1_ n2_ ho hb hg hat))
    go_ret
    exact ⟨_, rfl, by simpa using HO.out, HB.out⟩

end Go.Proofs.Ytnbeeogmaamgdaa.PFnOn
