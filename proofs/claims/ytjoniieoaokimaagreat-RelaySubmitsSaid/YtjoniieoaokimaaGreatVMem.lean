/- Rules of operations that make or write memory; calls. -/
import Derived.Test.YtjoniieoaokimaaGreatVOps
import Derived.LoopN
set_option linter.unusedVariables false
set_option linter.unusedSimpArgs false
set_option linter.unusedSectionVars false
set_option autoImplicit true
set_option relaxedAutoImplicit true
namespace Go.V
open Go.RowKit (Below)
section
variable {P : Program} {ops : Array Oper} {Q : Exit → Act → World → Prop} {K : Act → World → Prop} {n : Nat} {D : List Deferred} {E : Env} {σ : Bs} {M M' : List Seg} {o : Oper} {rest : List Oper}
variable {ty : TypeId} {pos : String} {after : Array Edge} {x y z : Operand}

/-! ### new blocks -/
theorem o_alloc {T t : Nat} {zv ps} (hz : ∀ w, (zeroValue T).run P w = .ok zv w) (hp : zv.cells = (flat ps).toArray) (ht : Nat.blt t n = true)
    (h : ∀ b, J n D ((t, .pointer (some ⟨b, 0, none⟩)) :: E) σ ([(b, obj T ps)] :: M) K) : J n D E σ M (Op1 P ops Q ⟨some t, .alloc T, ty, pos, after, none⟩ K) := by
  intro a w hA hS
  refine op1_run (r := .ok (.value (.pointer (some ⟨w.heap.size, 0, none⟩))) (w.alloc (obj T ps))) rfl ?_ ?_
  · simp [execOp, Instr.alloc, hz, newVar, newRow, newObj, hp, obj, pure, Sem.run]
  · exact h _ _ _ (hA.put t _ ht) (hS.alloc _)

theorem o_box {T t : Nat} {v ps} (hx : val E x = some v) (hp : v.cells = (flat ps).toArray) (ht : Nat.blt t n = true)
    (h : ∀ b, J n D ((t, .pointer (some ⟨b, 0, none⟩)) :: E) σ ([(b, obj T ps)] :: M) K) : J n D E σ M (Op1 P ops Q ⟨some t, .box T x, ty, pos, after, none⟩ K) := by
  intro a w hA hS
  refine op1_run (r := .ok (.value (.pointer (some ⟨w.heap.size, 0, none⟩))) (w.alloc (obj T ps))) rfl ?_ ?_
  · simp [execOp, Instr.box, hA.eval hx, newVar, newRow, newObj, hp, obj, pure, Sem.run]
  · exact h _ _ _ (hA.put t _ ht) (hS.alloc _)

/-! ### stores -/
/-- v is these parts -/
inductive IsP : Value → List Part → Prop
  | agg {ps} : IsP (vagg ps) ps
  | one {v} (h : one1 v = true) : IsP v [P1 v h]
theorem IsP.cells {v ps} (h : IsP v ps) : v.cells = (flat ps).toArray := by
  cases h with
  | agg => rfl
  | one h => cases v <;> first | rfl | (simp [one1] at h)

theorem o_store {T T0 m b off : Nat} {v ps qs rs} (hm : ∀ w, (sizeOf T).run P w = .ok m w) (hx : val E x = some (.pointer (some ⟨b, off, none⟩))) (hy : val E y = some v) (hv : IsP v qs)
    (hu : Upd b (obj T0 ps) (obj T0 rs) M M') (hp : putAt ps off m qs [] = some rs) (htot : total qs = m)
    (h : J n D E σ M' K) : J n D E σ M (Op1 P ops Q ⟨none, .store T x y, ty, pos, after, none⟩ K) := by
  intro a w hA hS
  obtain ⟨h1, h2⟩ := put_flat hp htot
  obtain ⟨w', r1, r2, r3, r4, r5, r6, r7⟩ := storeCells_run (P := P) (flat qs) w b off 0 (flat ps) T0 (hS.own _ hu.mem.1) (by rw [flat_length qs, htot]; omega) (flat_one qs)
  have hrun : (execOp a.eval ⟨none, .store T x y, ty, pos, after, none⟩).run P w = .ok .skip w' := by
    have hc := hv.cells
    have hl : (flat qs).toArray.size = m := by simp [flat_length, htot]
    simp only [execOp, hA.eval hx, hA.eval hy, Instr.storeAt, Instr.sureAddr, storeVar, hc, Sem.run_bind, hm, Result.andThen, pure, Sem.run, hl, ne_eq, not_true_eq_false, if_false, r1]
  refine op1_run rfl hrun ?_
  simp only [Oper.upon, Act.put]
  exact h a w' hA (hS.upd hu r2 r3 r4 r5 (by rw [r6, Nat.add_zero, ← h1]; rfl) r7)

/-! ### parts of M -/
inductive Take (S : Seg) : List Seg → List Seg → Prop
  | here {A : List Seg} : Take S (S :: A) A
  | there {X : Seg} {A B : List Seg} : Take S A B → Take S (X :: A) (X :: B)
theorem Take.perm {S : Seg} {M M' : List Seg} (h : Take S M M') : M.flatten.Perm (S :: M').flatten := by
  induction h with
  | here => exact .refl _
  | @there X M M' _ ih =>
    simp only [List.flatten_cons] at ih ⊢
    refine (List.Perm.append_left X ih).trans ?_
    rw [← List.append_assoc, ← List.append_assoc]
    exact List.Perm.append_right _ List.perm_append_comm
inductive Takes : List Seg → List Seg → List Seg → Prop
  | nil {A : List Seg} : Takes [] A A
  | cons {S : Seg} {L A B F : List Seg} (h : Take S A B) (h' : Takes L B F) : Takes (S :: L) A F
theorem Takes.perm {L M F : List Seg} (h : Takes L M F) : M.flatten.Perm (L ++ F).flatten := by
  induction h with
  | nil => exact .refl _
  | @cons S L M M1 F h h' ih =>
    refine h.perm.trans ?_
    simp only [List.flatten_cons, List.cons_append]
    exact List.Perm.append_left S ih

/-! ### calls -/
def vals (E : Env) : List Operand → Option (List Value)
  | [] => some []
  | x :: xs => match val E x with
    | none => none
    | some v => match vals E xs with
      | none => none
      | some vs => some (v :: vs)
theorem vals_map {n D E a} (hA : Has n D E a) : ∀ (xs : List Operand) (vs : List Value), vals E xs = some vs → xs.map a.eval = vs
  | [], vs, h => by simp [vals] at h; simp [h]
  | x :: xs, vs, h => by
    simp only [vals] at h
    cases hx : val E x with
    | none => rw [hx] at h; cases h
    | some v =>
      rw [hx] at h
      cases hxs : vals E xs with
      | none => rw [hxs] at h; cases h
      | some us =>
        rw [hxs] at h
        simp at h
        subst h
        simp [hA.eval hx, vals_map hA xs us hxs]

/-- What a call comes to: it returns v, such that R v in the world behind it. -/
def Ret (R : Value → World → Prop) (e : Ending) (w : World) : Prop := ∃ v, e = .returned v ∧ R v w
theorem Ret.mk {R : Value → World → Prop} {v w} (h : R v w) : Ret R (.returned v) w := ⟨v, rfl, h⟩

/-- the general rule of a call -/
theorem o_call {f : FuncId} {xs : List Operand} {vs : List Value} {tys : Array TypeId} {t : Nat} {R : World → Value → World → Prop} {v0 : Value} (hv0 : val E v0c = some v0)
    (hv : v0 = .func (.func f) #[] #[]) (hf : ∀ args w, (callFunc f args).run P w = .ok (.enter f args) w) (hxs : vals E xs = some vs) (ht : Nat.blt t n = true)
    (hc : ∀ w, St σ.w0 σ.B0 σ.R M w → Calls P f vs.toArray w (Ret (R w)))
    (h : ∀ v w, St σ.w0 σ.B0 σ.R M w → ∀ w', R w v w' → ∀ a', Has n D ((t, v) :: E) a' → K a' w') :
    J n D E σ M (Op1 P ops Q ⟨some t, .call ⟨.value v0c, xs.toArray, tys⟩, ty, pos, after, none⟩ K) := by
  intro a w hA hS
  refine op1_run (r := .ok (.enter f vs.toArray) w) rfl ?_ ?_
  · have hargs : xs.toArray.map a.eval = vs.toArray := by rw [List.map_toArray, vals_map hA xs vs hxs]
    simp only [execOp, resolve, hA.eval hv0, hv, Deferred.ofValue, hargs, Sem.run_bind, Result.andThen, pure, Sem.run, invoke, hf]
    simp [hf]
  · rw [Oper.upon_enter]
    refine (hc w hS).mono ?_
    rintro e w' ⟨v, rfl, hR⟩
    exact h v w hS w' hR _ (hA.put t v ht)

/-- A call that owns L of what is there, and leaves L' in its place. -/
theorem o_call_st {f : FuncId} {xs : List Operand} {vs : List Value} {tys : Array TypeId} {t : Nat} {L F : List Seg} {X : Type} {v : X → Value} {L' : X → List Seg} {p : X → Prop}
    (hf : ∀ args w, (callFunc f args).run P w = .ok (.enter f args) w) (hxs : vals E xs = some vs) (ht : Nat.blt t n = true) (hL : Takes L M F)
    (hc : ∀ w, Pts (σ.R ++ M) w → (dom L).Nodup → Calls P f vs.toArray w (Ret fun u w' => ∃ x, p x ∧ u = v x ∧ St w (dom L) [] (L' x) w'))
    (h : ∀ x, p x → J n D ((t, v x) :: E) σ (L' x ++ F) K) :
    J n D E σ M (Op1 P ops Q ⟨some t, .call ⟨.value (.func f), xs.toArray, tys⟩, ty, pos, after, none⟩ K) := by
  refine o_call (v0 := .func (.func f) #[] #[]) (v0c := .func f) rfl rfl hf hxs ht (R := fun w u w' => ∃ x, p x ∧ u = v x ∧ St w (dom L) [] (L' x) w') ?_ ?_
  · intro w hS
    refine hc w hS.pts ?_
    have := (hL.perm.map Prod.fst).nodup_iff.1 hS.nodup
    rw [List.flatten_append, List.map_append, List.nodup_append] at this
    exact this.1
  · rintro u w hS w' ⟨x, hp, rfl, hS'⟩ a' hA'
    exact h x hp a' w' hA' (hS.call hL.perm hS')

/-- Calls of functions that only compute: nothing that was there is changed; L' is new. -/
def Quiet (P : Program) (f : FuncId) (vs : List Value) (R : Value → List Seg → Prop) (w : World) : Prop :=
  Calls P f vs.toArray w (Ret fun u w' => ∃ L', R u L' ∧ St w [] [] L' w')

theorem o_quiet {f : FuncId} {xs : List Operand} {vs : List Value} {tys : Array TypeId} {t : Nat} {R : Value → List Seg → Prop}
    (hf : ∀ args w, (callFunc f args).run P w = .ok (.enter f args) w) (hxs : vals E xs = some vs) (ht : Nat.blt t n = true)
    (hc : ∀ w, Pts (σ.R ++ M) w → Quiet P f vs R w)
    (h : ∀ u L', R u L' → J n D ((t, u) :: E) σ (L' ++ M) K) :
    J n D E σ M (Op1 P ops Q ⟨some t, .call ⟨.value (.func f), xs.toArray, tys⟩, ty, pos, after, none⟩ K) := by
  refine o_call (v0 := .func (.func f) #[] #[]) (v0c := .func f) rfl rfl hf hxs ht (R := fun w u w' => ∃ L', R u L' ∧ St w [] [] L' w') ?_ ?_
  · intro w hS; exact hc w hS.pts
  · rintro u w hS w' ⟨L', hp, hS'⟩ a' hA'
    exact h u L' hp a' w' hA' (hS.quiet hS')

/-- .. and a plain value. -/
def Pure (P : Program) (f : FuncId) (vs : List Value) (v : Value) : Prop := ∀ w, Calls P f vs.toArray w (Ret fun u w' => u = v ∧ St w [] [] [] w')

theorem o_pure {f : FuncId} {xs : List Operand} {vs : List Value} {tys : Array TypeId} {t : Nat} {v : Value}
    (hf : ∀ args w, (callFunc f args).run P w = .ok (.enter f args) w) (hxs : vals E xs = some vs) (hc : Pure P f vs v) (ht : Nat.blt t n = true)
    (h : J n D ((t, v) :: E) σ M K) :
    J n D E σ M (Op1 P ops Q ⟨some t, .call ⟨.value (.func f), xs.toArray, tys⟩, ty, pos, after, none⟩ K) := by
  refine o_call (v0 := .func (.func f) #[] #[]) (v0c := .func f) rfl rfl hf hxs ht (R := fun w u w' => u = v ∧ St w [] [] [] w') ?_ ?_
  · intro w hS; exact hc w
  · rintro u w hS w' ⟨rfl, hS'⟩ a' hA'
    exact h a' w' hA' (by simpa using hS.quiet hS')

/-! ### control -/
theorem c_seq {c d : Code} (h : J n D E σ M (c.wp P (Exit.then (d.wp P Q) Q))) : J n D E σ M ((Code.seq c d).wp P Q) := fun a w hA hS => wp_seq (h a w hA hS)
theorem c_region {id : Nat} {l : List Oper} (h : J n D E σ M (wpList P l.toArray Q l)) : J n D E σ M ((Code.region id l.toArray false).wp P Q) := fun a w hA hS => wp_region_lit (h a w hA hS)
theorem c_nil (h : J n D E σ M (Q .normal)) : J n D E σ M (wpList P ops Q []) := h
theorem c_skip (h : J n D E σ M (Q .normal)) : J n D E σ M (Code.skip.wp P Q) := fun a w hA hS => wp_skip (h a w hA hS)
theorem c_ret (h : J n D E σ M (Q .ret)) : J n D E σ M (Code.ret.wp P Q) := fun a w hA hS => wp_ret (h a w hA hS)
theorem c_exit {i : Nat} (h : J n D E σ M (Q (.exit i))) : J n D E σ M ((Code.exit i).wp P Q) := fun a w hA hS => wp_exit (h a w hA hS)
theorem c_block {i : Nat} {c : Code} (h : J n D E σ M (c.wp P (Exit.inBlock i Q))) : J n D E σ M ((Code.block i c).wp P Q) := fun a w hA hS => wp_block (h a w hA hS)
theorem c_cond {c d : Code} {b : Bool} (hx : val E x = some (.bool b)) (ht : b = true → J n D E σ M (c.wp P Q)) (hf : b = false → J n D E σ M (d.wp P Q)) :
    J n D E σ M ((Code.cond x c d).wp P Q) := fun a w hA hS => wp_cond_split (hA.eval hx) (fun h => ht h a w hA hS) (fun h => hf h a w hA hS)
theorem c_condT {c d : Code} (hx : val E x = some (.bool true)) (ht : J n D E σ M (c.wp P Q)) : J n D E σ M ((Code.cond x c d).wp P Q) := fun a w hA hS => wp_cond_true (hA.eval hx) (ht a w hA hS)
theorem c_condF {c d : Code} (hx : val E x = some (.bool false)) (hf : J n D E σ M (d.wp P Q)) : J n D E σ M ((Code.cond x c d).wp P Q) := fun a w hA hS => wp_cond_false (hA.eval hx) (hf a w hA hS)
/-- a test of a proposition -/
theorem c_if {c d : Code} {p : Prop} [Decidable p] (hx : val E x = some (.bool (decide p))) (ht : p → J n D E σ M (c.wp P Q)) (hf : ¬ p → J n D E σ M (d.wp P Q)) :
    J n D E σ M ((Code.cond x c d).wp P Q) := c_cond hx (fun h => ht (of_decide_eq_true h)) (fun h => hf (of_decide_eq_false h))
theorem c_ifn {c d : Code} {p : Prop} [Decidable p] (hx : val E x = some (.bool (!decide p))) (ht : ¬ p → J n D E σ M (c.wp P Q)) (hf : p → J n D E σ M (d.wp P Q)) :
    J n D E σ M ((Code.cond x c d).wp P Q) := c_cond hx (fun h => ht (by simpa using h)) (fun h => hf (by simpa using h))


theorem c_loop {c : Code} (k : Nat) (h : J n D E σ M (Code.rounds P c Q k)) : J n D E σ M ((Code.loop c).wp P Q) := fun a w hA hS => wp_loop_rounds k (h a w hA hS)
theorem c_round {c : Code} {k : Nat} (h : J n D E σ M (c.wp P (Exit.then (Code.rounds P c Q k) Q))) : J n D E σ M (Code.rounds P c Q (k + 1)) := h

/-- what is known at a loop's head, with ghosts x -/
structure At (n : Nat) (D : List Deferred) (σ : Bs) (E : Env) (M : List Seg) (a : Act) (w : World) : Prop where
  has : Has n D E a
  st : St σ.w0 σ.B0 σ.R M w

theorem St.take {w0 B0 R M N F w} (h : St w0 B0 R M w) (ht : Takes N M F) : St w0 B0 R N w :=
  (h.perm ht.perm).drop (by rw [List.flatten_append]; exact List.sublist_append_left _ _)

theorem c_inv {c : Code} {X : Type} (EI : X → Env) (MI : X → List Seg) (p : X → Prop) (μ : X → Nat) (x0 : X) (h0 : p x0) (hE : sub E (EI x0)) {F : List Seg} (hM : Takes (MI x0) M F)
    (round : ∀ x, p x → J n D (EI x) σ (MI x) (c.wp P (Exit.then (fun a w => ∃ y, p y ∧ μ y < μ x ∧ At n D σ (EI y) (MI y) a w) Q))) : J n D E σ M ((Code.loop c).wp P Q) := by
  intro a w hA hS
  have key : ∀ (m : Nat) (x : X) (a : Act) (w : World), μ x < m → p x → At n D σ (EI x) (MI x) a w → Code.rounds P c Q m a w := by
    intro m
    induction m with
    | zero => intro x a w hm; exact absurd hm (by omega)
    | succ m ih =>
      intro x a w hm hp hat
      rw [rounds_succ]
      refine Code.wp_mono ?_ (round x hp a w hat.has hat.st)
      intro e a' w' hq
      cases e with
      | normal => obtain ⟨y, h1, h2, h3⟩ := hq; exact ih y a' w' (by omega) h1 h3
      | exit _ => exact hq
      | goto _ => exact hq
      | ret => exact hq
      | panic _ => exact hq
      | outgrown => exact hq
  exact wp_loop_rounds _ (key (μ x0 + 1) x0 a w (by omega) h0 ⟨hA.weak _ hE, hS.take hM⟩)

/-- a round ends at ghost y -/
theorem c_again {X : Type} {EI : X → Env} {MI : X → List Seg} {p : X → Prop} {μ : X → Nat} {x : X} (y : X) {F : List Seg} (hp : p y) (hμ : μ y < μ x) (hE : sub E (EI y)) (hM : Takes (MI y) M F) :
    J n D E σ M (fun a w => ∃ y, p y ∧ μ y < μ x ∧ At n D σ (EI y) (MI y) a w) := fun a w hA hS => ⟨y, hp, hμ, hA.weak _ hE, hS.take hM⟩

/-- what is left of the slots, and of the heap -/
theorem c_cut {E' : Env} {N F : List Seg} (hE : sub E E') (hM : Takes N M F) (h : J n D E' σ N K) : J n D E σ M K := fun a w hA hS => h a w (hA.weak _ hE) (hS.take hM)
theorem c_env {E' : Env} (hE : sub E E') (h : J n D E' σ M K) : J n D E σ M K := fun a w hA hS => h a w (hA.weak _ hE) hS
theorem c_heap {N F : List Seg} (hM : Takes N M F) (h : J n D E σ N K) : J n D E σ M K := fun a w hA hS => h a w hA (hS.take hM)

/-- two ways meet: both come to 'At' with some ghost -/
theorem c_meet {c d : Code} {X : Type} (EI : X → Env) (MI : X → List Seg) (p : X → Prop) (h : J n D E σ M (c.wp P (Exit.then (fun a w => ∃ y, p y ∧ At n D σ (EI y) (MI y) a w) Q)))
    (h' : ∀ y, p y → J n D (EI y) σ (MI y) (d.wp P Q)) : J n D E σ M ((Code.seq c d).wp P Q) := by
  intro a w hA hS
  refine wp_seq (Code.wp_mono ?_ (h a w hA hS))
  intro e a' w' hq
  cases e with
  | normal => obtain ⟨y, h1, h2⟩ := hq; exact h' y h1 a' w' h2.has h2.st
  | exit _ => exact hq
  | goto _ => exact hq
  | ret => exact hq
  | panic _ => exact hq
  | outgrown => exact hq
theorem c_there {X : Type} {EI : X → Env} {MI : X → List Seg} {p : X → Prop} (y : X) {F : List Seg} (hp : p y) (hE : sub E (EI y)) (hM : Takes (MI y) M F) :
    J n D E σ M (fun a w => ∃ y, p y ∧ At n D σ (EI y) (MI y) a w) := fun a w hA hS => ⟨y, hp, hA.weak _ hE, hS.take hM⟩

/-! ### returning -/
/-- what a result slot gives -/
inductive ResV (P : Program) (E : Env) (N : List Seg) : ResultVar → Value → Prop
  | tmp {t v} (h : look E t = some v) : ResV P E N (.tmp t) v
  | cell1 {t T b off T0 ps v} (hA : ∀ w, (isAgg T).run P w = .ok false w) (hx : look E t = some (.pointer (some ⟨b, off, none⟩))) (hm : (b, obj T0 ps) ∈ N.flatten) (hc : cellAt ps off = some v) : ResV P E N (.cell t T) v
  | cellN {t T b off T0 ps m qs} (hA : ∀ w, (isAgg T).run P w = .ok true w) (hz : ∀ w, (sizeOf T).run P w = .ok m w) (hx : look E t = some (.pointer (some ⟨b, off, none⟩))) (hm : (b, obj T0 ps) ∈ N.flatten) (hc : spanAt ps off m = some qs) : ResV P E N (.cell t T) (vagg qs)

theorem loadVar1 {T b off T0 ps v w} (hA : ∀ w, (isAgg T).run P w = .ok false w) (hm : w.heap[b]? = some (obj T0 ps)) (hc : cellAt ps off = some v) : (loadVar T ⟨b, off, none⟩).run P w = .ok v w := by
  have h2 : w.cell? ⟨b, off, none⟩ = some v := by
    simp only [World.cell?, hm, obj]
    simpa using cellAt_flat _ _ _ hc
  simp [loadVar, hA, load, Sem.run, h2, pure]
theorem loadVarN {T b off T0 ps m qs w} (hA : ∀ w, (isAgg T).run P w = .ok true w) (hz : ∀ w, (sizeOf T).run P w = .ok m w) (hm : w.heap[b]? = some (obj T0 ps)) (hc : spanAt ps off m = some qs) :
    (loadVar T ⟨b, off, none⟩).run P w = .ok (vagg qs) w := by
  obtain ⟨_, _, _, _, h3⟩ := spanAt_eq _ _ _ _ hc
  have hl : (loadCells ⟨b, off, none⟩ m).run P w = .ok (flat qs).toArray w := by
    have := run_loadCells (P := P) (w := w) (b := b) (off := off) (cs := flat qs) hm (fun j v hj => span_get hc j v hj)
    rwa [flat_length, h3] at this
  simp [loadVar, hA, hz, hl, Sem.run, pure, vagg]

def resRun (a : Act) : ResultVar → Sem Value := fun
    | .tmp t => pure (a.tmps.getD t undef)
    | .cell x t => do loadVar t (← asAddr (a.tmps.getD x undef))
theorem ResV.run {N r v a w} (h : ResV P E N r v) (hA : Has n D E a) (hN : Pts N w) : (resRun a r).run P w = .ok v w := by
  cases h with
  | tmp h => simp [resRun, hA.look _ _ h, pure, Sem.run]
  | cell1 hG hx hm hc =>
    have := loadVar1 (P := P) hG (hN _ hm) hc
    simp only [resRun, hA.look _ _ hx, asAddr, Sem.run_bind, pure, Sem.run, Result.andThen, this]
  | cellN hG hz hx hm hc =>
    have := loadVarN (P := P) hG hz (hN _ hm) hc
    simp only [resRun, hA.look _ _ hx, asAddr, Sem.run_bind, pure, Sem.run, Result.andThen, this]

theorem results_is (fn : Func) (a : Act) : results fn a.tmps = (do let vs ← fn.results.mapM (resRun a); pure (if h : vs.size = 1 then vs[0] else .tuple vs)) := by
  rfl

theorem c_done1 {fn : Func} {R : Value → World → Prop} {r v} (hr : fn.results = #[r]) (h1 : ResV P E (σ.R ++ M) r v) (h : ∀ w, St σ.w0 σ.B0 σ.R M w → R v w) :
    J n [] E σ M (bodyPost P fn (Ret R) .ret) := by
  intro a w hA hS
  refine ⟨hA.defers, v, ?_, Ret.mk (h w hS)⟩
  have h1' := h1.run hA hS.pts
  rw [results_is, hr]
  simp [h1', pure, Sem.run]
theorem c_done2 {fn : Func} {R : Value → World → Prop} {r r' v v'} (hr : fn.results = #[r, r']) (h1 : ResV P E (σ.R ++ M) r v) (h2 : ResV P E (σ.R ++ M) r' v') (h : ∀ w, St σ.w0 σ.B0 σ.R M w → R (.tuple #[v, v']) w) :
    J n [] E σ M (bodyPost P fn (Ret R) .ret) := by
  intro a w hA hS
  refine ⟨hA.defers, _, ?_, Ret.mk (h w hS)⟩
  have h1' := h1.run hA hS.pts
  have h2' := h2.run hA hS.pts
  rw [results_is, hr]
  simp [h1', h2', pure, Sem.run]
theorem c_done3 {fn : Func} {R : Value → World → Prop} {r r' r'' v v' v''} (hr : fn.results = #[r, r', r'']) (h1 : ResV P E (σ.R ++ M) r v) (h2 : ResV P E (σ.R ++ M) r' v') (h3 : ResV P E (σ.R ++ M) r'' v'')
    (h : ∀ w, St σ.w0 σ.B0 σ.R M w → R (.tuple #[v, v', v'']) w) :
    J n [] E σ M (bodyPost P fn (Ret R) .ret) := by
  intro a w hA hS
  refine ⟨hA.defers, _, ?_, Ret.mk (h w hS)⟩
  have h1' := h1.run hA hS.pts
  have h2' := h2.run hA hS.pts
  have h3' := h3.run hA hS.pts
  rw [results_is, hr]
  simp [h1', h2', h3', pure, Sem.run]
theorem c_done0 {fn : Func} {R : Value → World → Prop} (hr : fn.results = #[]) (h : ∀ w, St σ.w0 σ.B0 σ.R M w → R (.tuple #[]) w) :
    J n [] E σ M (bodyPost P fn (Ret R) .ret) := by
  intro a w hA hS
  refine ⟨hA.defers, _, ?_, Ret.mk (h w hS)⟩
  rw [results_is, hr]
  simp [pure, Sem.run]
/-- a body that ends without a return -/
theorem c_end {fn : Func} {R : Ending → World → Prop} (h : J n D E σ M (bodyPost P fn R .ret)) : J n D E σ M (bodyPost P fn R .normal) := h
end

theorem St.none {w0 R M w} (h : St w0 [] R M w) : St w0 [] [] [] w :=
  ⟨h.os, h.tape, h.output, h.size, h.keep, .nil, fun _ hb => (by cases hb), fun _ hp => (by simp at hp), fun _ hb => (by cases hb), fun _ hp => (by simp at hp)⟩
/-- the beginning of a walk -/
theorem begin_ {P : Program} {f : FuncId} {fn : Func} {c : Code} {args : List Value} {w : World} {R : Ending → World → Prop} {n : Nat} {Rd M : List Seg}
    (hf : P.funcs[f]? = some fn) (hb : fn.body = some c) (hn : fn.ntmps = n) (hargs : Nat.ble args.length n = true) (hS : St w (dom M) Rd M w)
    (h : J n [] (argsEnv 0 args) ⟨w, dom M, Rd⟩ M (c.wp P (bodyPost P fn R))) : Calls P f args.toArray w R :=
  enter hf hb hn hargs fun a hA => h a w hA hS
theorem begin0 {P : Program} {f : FuncId} {fn : Func} {c : Code} {args : List Value} {w : World} {R : Ending → World → Prop} {n : Nat}
    (hf : P.funcs[f]? = some fn) (hb : fn.body = some c) (hn : fn.ntmps = n) (hargs : Nat.ble args.length n = true)
    (h : J n [] (argsEnv 0 args) ⟨w, [], []⟩ [] (c.wp P (bodyPost P fn R))) : Calls P f args.toArray w R :=
  enter hf hb hn hargs fun a hA => h a w hA (St.init0 (by intro p hp; simp at hp))
theorem beginR {P : Program} {f : FuncId} {fn : Func} {c : Code} {args : List Value} {w : World} {R : Ending → World → Prop} {n : Nat} {Rd : List Seg}
    (hf : P.funcs[f]? = some fn) (hb : fn.body = some c) (hn : fn.ntmps = n) (hargs : Nat.ble args.length n = true) (hR : Pts Rd w)
    (h : J n [] (argsEnv 0 args) ⟨w, [], Rd⟩ [] (c.wp P (bodyPost P fn R))) : Calls P f args.toArray w R :=
  enter hf hb hn hargs fun a hA => h a w hA (St.init0 hR)
end Go.V
