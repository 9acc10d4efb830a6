/- Short forms of the steps that the printed texts repeat at each event: each is a lemma whose last premise Lean finds by the same tactics as the long form. -/
import Derived.Test.YtpjgcjkodmkemaaV
namespace Go.Proofs.YtpjgcjkodmkemaaW.PrintWords
open Go.RowKit Go.Proofs.YtpjgcjkodmkemaaW.PrintLast Go.Proofs.YtpjgcjkodmkemaaW.PrintMore
theorem U {A B : Prop} (h : A) (u : A → B := by intro h_; (with_reducible repeat (first | exact h_ | apply Kd.R_alloc | apply Kd.R_drewN | apply Kd.R_drew | apply Kd.S_alloc | apply Kd.S_drewN | apply Kd.S_drew | refine blk_drewN ?_ _ | refine blk_drew ?_ | refine blk_alloc ?_ _ | refine Kd.C_alloc ?_ _ | refine Kd.C_drewN ?_ _ | refine Kd.C_drew ?_ | apply KeepBut.set_ | apply keep_drewN | apply keep_drew | apply keep_alloc)); all_goals exact h_) : B := u h
theorem Kd.RM {α : Type} {d : Kd α} {e : Nat} {w w' : World} {base : Nat} {ok ok' : Nat → Prop} {v : Value} {xs : List α} (h : d.R e w base ok v xs) (m : ∀ k, ok k → ok' k) (u : d.R e w base ok' v xs → d.R e w' base ok' v xs := by exact fun h_ => U h_) : d.R e w' base ok' v xs := u (Kd.R_mono h m)
theorem BU {w W : World} (h : Below w.heap.size w W := by repeat (first | (with_reducible first | exact HB.out | apply below_alloc | apply pw_below_drewN | apply below_drew1 | refine below_set ?_ (Aside0.out (by assumption))) | exact HB.out | exact Below.refl _ _)) : Below w.heap.size w W := h
theorem KU {w W : World} {g : Nat} {row : Option Nat} (h : KeepBut w W g row := by exact U HK.out) : KeepBut w W g row := h
theorem bB {w W w1 : World} {g : Nat} {o : Obj} (h : Aside0 (w.heap[g]? = some o)) (hb : Below W.heap.size W w1) (u : w.heap[g]? = some o → W.heap[g]? = some o := by exact fun h_ => U h_) : Aside0 (w1.heap[g]? = some o) := ⟨blk_below (u h.out) hb⟩
theorem BS {w W w2 : World} (hb : Below W.heap.size W w2) (h : Below w.heap.size w W := by exact BU) : Aside0 (Below w.heap.size w w2) := ⟨below_step h hb⟩
theorem oD {p : Prop} [d : Decidable p] (h : decide p = true := by first | (with_reducible assumption) | assumption) : p := of_decide_eq_true h
theorem rH {α : Type} {y z : α} {A B : Prop} (e : y = z) (h : A) (u : y = z → A → B := by intro e_ h_; first | (rw [e_]; with_reducible exact h_) | (have H2_ := (Option.bind_some _ _).symm.trans h_; rw [e_]; with_reducible exact H2_) | (have H2_ := (Option.bind_some _ _).symm.trans h_; with_reducible exact H2_) | with_reducible exact h_ | (rw [e_]; exact h_) | exact h_) : B := u e h
theorem ifF {α : Type} {d : Decidable (false = true)} {a b r : α} (h : @ite α (false = true) d a b = r) : b = r := (if_neg (fun k => by cases k)).symm.trans h
theorem ifT {α : Type} {c : Bool} {d : Decidable (c = c)} {a b r : α} (h : @ite α (c = c) d a b = r) : a = r := (if_pos rfl).symm.trans h
theorem ifN {α : Type} {p : Prop} {d : Decidable p} {a : Option α} {r : α} (h : @ite _ p d a none = some r) : p ∧ a = some r := by
  by_cases k : p
  · rw [if_pos k] at h; exact ⟨k, h⟩
  · rw [if_neg k] at h; cases h
theorem ifM {α : Type} {p : Prop} {d : Decidable p} {a : Option α} {r : α} (h : @ite _ p d none a = some r) : ¬ p ∧ a = some r := by
  by_cases k : p
  · rw [if_pos k] at h; cases h
  · rw [if_neg k] at h; exact ⟨k, h⟩
theorem bnd {α β : Type} {o : Option α} {f : α → Option β} {r : β} (h : o.bind f = some r) : ∃ a, Aside0 (o = some a) ∧ f a = some r := by
  obtain ⟨a, h1, h2⟩ := Option.bind_eq_some_iff.mp h
  exact ⟨a, ⟨h1⟩, h2⟩
theorem sR {p : Prop} (u : p := by first | rfl | (simp; done) | (simp [*]; done)) : p := u
theorem oR {p : Prop} (u : p := by first | omega | exact Nat.le_refl _) : p := u
theorem eR {p : Prop} (u : p := by first | rfl | (simp [errW_none, errW_some] <;> rfl) | (simp [*, errW_none, errW_some] <;> rfl)) : p := u
section
variable {P : Program} {ops : Array Oper} {rest : List Oper} {o : Oper} {a : Act} {Q : Exit → Act → World → Prop}
theorem boxE {W : World} {N : Tmp} {cs : Array Value} {t : TypeId}
    (h : ∀ g, g = W.heap.size → ∀ w1, w1.heap[g]? = some (.cells cs t (0, 0)) → Below W.heap.size W w1 → wpList P ops Q rest (a.put o.dst (.pointer (some ⟨g, 0, none⟩))) w1)
    (hgd : o.guard = none := by rfl) (_hd : o.dst = some N := by rfl)
    (hrun : (execOp a.eval o).run P W = .ok (.value (.pointer (some ⟨W.heap.size, 0, none⟩))) (W.alloc (.cells cs t (0, 0))) := by first | (go_simp; done) | (go_simp; rfl)) : wpList P ops Q (o :: rest) a W := box_event hgd _hd hrun h
theorem goesK {w : World} (N : Option Tmp) {f : FuncId} {fn : Func} {as : Array Operand} {ts : Array TypeId} (hf : P.funcs[f]? = some fn) (args : Array Value)
    (h : Calls P f args w fun e w' => ∃ v, e = .returned v ∧ wpList P ops Q rest (a.put N v) w')
    (hd : o.dst = N := by rfl) (hg : o.guard = none := by rfl) (hname : (fn.name == "runtime.NumGoroutine") = false := by kernel_rfl) (hb : fn.body.isSome = true := by rfl)
    (hop : o.op = .call { callee := .value (.func f), args := as, argTypes := ts } := by rfl) (hargs : as.map a.eval = args := by (try simp only [List.map_toArray, List.map_cons, List.map_nil]); first | done | rfl | (simp only [List.length_drop, List.length_take]; rfl)) : wpList P ops Q (o :: rest) a w := goesL_ N hd hg hf hname hb args hop hargs h
end
def Same (bad : Nat → Prop) (W W' : World) : Prop := Below 0 W W' ∧ ∀ i, i < W.heap.size → ¬ bad i → W'.heap[i]? = W.heap[i]?
def Held {α : Type} (d : Kd α) (bad : Nat → Prop) (W : World) (A : Option Addr) (xs : List α) : Prop := ∀ W', Same bad W W' → Kd.C d W' A xs.length xs
theorem below0 {B : Nat} {W W' : World} (h : Below B W W') : Below 0 W W' := ⟨h.os, h.tape, h.output, h.size, fun _ hk => absurd hk (Nat.not_lt_zero _)⟩
theorem Same.below {bad : Nat → Prop} {W W' : World} (h : Below W.heap.size W W') : Same bad W W' := ⟨below0 h, fun i hi _ => h.block i hi⟩
theorem Same.trans {bad : Nat → Prop} {W W1 W2 : World} (h : Same bad W W1) (k : Same bad W1 W2) : Same bad W W2 := ⟨⟨k.1.os.trans h.1.os, k.1.tape.trans h.1.tape, k.1.output.trans h.1.output, Nat.le_trans h.1.size k.1.size, fun _ hk => absurd hk (Nat.not_lt_zero _)⟩, fun i hi hb => (k.2 i (Nat.lt_of_lt_of_le hi h.1.size) hb).trans (h.2 i hi hb)⟩
theorem Same.set {bad : Nat → Prop} {W X : World} (h : Same bad W X) {p : Addr} (hp : W.heap.size ≤ p.block ∨ bad p.block) (v : Value) : Same bad W (X.setCell p v) := by
  refine ⟨Below.setCell h.1 (Nat.zero_le _) _, fun i hi hb => ?_⟩
  rw [Below.heap_setCell X p v i (fun e => by rcases hp with k | k; omega; exact hb (e ▸ k))]
  exact h.2 i hi hb
theorem Same.grown {bad : Nat → Prop} {W X X1 : World} {row : Option Nat} (h : Same bad W X) (hg : X.grownBy X1 row) (hr : ∀ i, some i = row → i < W.heap.size → bad i) : Same bad W X1 := by
  refine ⟨⟨hg.os.trans h.1.os, hg.tape.trans h.1.tape, hg.output.trans h.1.output, Nat.le_trans h.1.size hg.size, fun _ hk => absurd hk (Nat.not_lt_zero _)⟩, fun i hi hb => ?_⟩
  rw [hg.block i (Nat.lt_of_lt_of_le hi h.1.size) (fun e => hb (hr i e hi))]
  exact h.2 i hi hb
theorem Held.of {bad : Nat → Prop} {W : World} {e base : Nat} {ok : Nat → Prop} {A : Option Addr} {n c : Nat} {xs : List (List Int)} (h : Kd.R (Kd.slice 3 (Kd.int .i64)) e W base ok (.slice A n c) xs) (hb : ∀ k, base ≤ k → k < W.heap.size → ¬ bad k) : Held (Kd.slice 3 (Kd.int .i64)) bad W A xs :=
  fun _ hs => (Kd.R_reads' (Kd.R_step (Kd.R_bound h) (fun k hk hlt => hs.2 k hlt (hb k hk.2.1 hk.2.2.1)))).2.2
theorem Held.same {α : Type} {d : Kd α} {bad : Nat → Prop} {W W1 : World} {A : Option Addr} {xs : List α} (h : Held d bad W A xs) (k : Same bad W W1) : Held d bad W1 A xs := fun W' hs => h W' (k.trans hs)
theorem Held.next {α : Type} {d : Kd α} {bad bad' : Nat → Prop} {W W1 : World} {A : Option Addr} {xs : List α} (h : Held d bad W A xs) (k : Same bad W W1) (hb : ∀ i, i < W.heap.size → bad' i → bad i) : Held d bad' W1 A xs := fun W' hs =>
  h W' ⟨⟨hs.1.os.trans k.1.os, hs.1.tape.trans k.1.tape, hs.1.output.trans k.1.output, Nat.le_trans k.1.size hs.1.size, fun _ hk => absurd hk (Nat.not_lt_zero _)⟩, fun i hi hn => (hs.2 i (Nat.lt_of_lt_of_le hi k.1.size) (fun b => hn (hb i hi b))).trans (k.2 i hi hn)⟩
theorem FU {W0 W Wc : World} (H : Aside0 (Below W0.heap.size W0 W)) (u : Below W0.heap.size W0 W → Below W0.heap.size W0 Wc := by intro h_; repeat (first | (with_reducible exact h_) | (with_reducible first | apply below_alloc | apply pw_below_drewN | apply below_drew1) | exact h_)) : Below W0.heap.size W0 Wc := u H.out
theorem FS {W0 W Wc w1 : World} (H : Aside0 (Below W0.heap.size W0 W)) (hb : Below Wc.heap.size Wc w1) (u : Below W0.heap.size W0 W → Below W0.heap.size W0 Wc := by exact fun h_ => FU (Aside0.mk h_)) : Aside0 (Below W0.heap.size W0 w1) := ⟨below_step (u H.out) hb⟩
end Go.Proofs.YtpjgcjkodmkemaaW.PrintWords
