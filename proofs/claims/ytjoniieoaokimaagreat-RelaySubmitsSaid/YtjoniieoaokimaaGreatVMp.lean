/- Maps. -/
import Derived.Test.YtjoniieoaokimaaGreatVSl
import Derived.Test.YtjoniieoaokimaaGreatVEqs
import Derived.WideKeyRuns
set_option linter.unusedVariables false
set_option linter.unusedSimpArgs false
set_option linter.unusedSectionVars false
set_option autoImplicit true
set_option relaxedAutoImplicit true
namespace Go.V
section
variable {P : Program} {ops : Array Oper} {Q : Exit → Act → World → Prop} {K : Act → World → Prop} {n : Nat} {D : List Deferred} {E : Env} {σ : Bs} {M M' N : List Seg} {o : Oper} {rest : List Oper}
variable {ty : TypeId} {pos : String} {after : Array Edge} {x y z u : Operand} {S : World → Prop}

/-- an entry: key, value, when it was put in -/
structure Me (α : Type) where
  key : α
  val : Value
  born : Nat
variable {α : Type} [DecidableEq α] {f : α → Value}
def ments (f : α → Value) (l : List (Me α)) : List MapEntry := l.map fun x => { key := f x.key, val := x.val, born := x.born }
def mObj (f : α → Value) (l : List (Me α)) (c : Nat) : Obj := .map (ments f l).toArray c
/-- the first entry of a key, with its number -/
def mFind (k : α) : List (Me α) → Nat → Option (Nat × Value)
  | [], _ => none
  | x :: l, i => if k = x.key then some (i, x.val) else mFind k l (i + 1)

structure KeyR (P : Program) (K : TypeId) (f : α → Value) : Prop where
  chk : ∀ e a w, (Instr.checkKey e 10000 K (f a)).run P w = .ok () w
  find : ∀ k l w, (Instr.findKey K (f k) (ments f l)).run P w = .ok (mFind k l 0) w
  same : ∀ a, Instr.sameBits 10000 (f a) (f a) = true

theorem findAsking_run {Kt : TypeId} (heq : ∀ a b, EqR P 10000 Kt (f a) (f b) (decide (a = b))) (k : α) (w : World) : ∀ (l : List (Me α)) (i : Nat), (Instr.findAsking Kt (f k) (ments f l) i).run P w = .ok (mFind k l i) w
  | [], i => by simp [ments, Instr.findAsking, mFind, pure, Sem.run]
  | x :: l, i => by
    have h1 : (Op.equal Kt (f k) (f x.key)).run P w = .ok (decide (k = x.key)) w := heq k x.key w
    have ih := findAsking_run heq k w l (i + 1)
    simp only [ments] at ih
    simp only [ments, List.map_cons, Instr.findAsking, Sem.run_bind, h1, Result.andThen, mFind]
    by_cases hk : k = x.key
    · simp [hk, pure, Sem.run]
    · simp [hk, ih]

/-! ### hashes as keys -/
theorem checkKey_leaf {T e m k k' mm} {l : List (BitVec mm)} {h : l.length = m} (hT : P.underlying T = some (.array m e)) (he : P.underlying e = some (.int k')) (hA : ∀ w, (isAgg e).run P w = .ok false w) (hs : ∀ w, (sizeOf e).run P w = .ok 1 w) (em : Bool) (d : Nat) (w : World) :
    (Instr.checkKey em (d + 2) T (vagg [leaf k m l h])).run P w = .ok () w := by
  rw [show d + 2 = (d + 1) + 1 from rfl, Instr.checkKey]
  simp only [vagg, Sem.run_bind, run_underlying hT, Result.andThen_ok]
  simp only [Std.Legacy.Range.forIn_eq_forIn_range', Std.Legacy.Range.size, Nat.sub_zero, Nat.add_one_sub_one, Nat.div_one]
  have key : ∀ (r j : Nat), j + r = m → (forIn (m := Sem) (List.range' j r) PUnit.unit (fun i _ => do
      let __do_lift ← sizeOf e
      let __do_lift ← part e (flat [leaf k m l h]).toArray (i * __do_lift)
      Instr.checkKey em (d + 1) e __do_lift
      pure (ForInStep.yield PUnit.unit))).run P w = .ok PUnit.unit w := by
    intro r
    induction r with
    | zero => intro j _; simp [pure, Sem.run]
    | succ r ih =>
      intro j hj
      have p1 := part1 (P := P) (T := e) (off := j * 1) hA (by rw [Nat.mul_one]; exact leaf_cell (k := k) (h := h) (show j < m by omega)) w
      have p2 : (Instr.checkKey em (d + 1) e (bv k (l.getD j 0#mm))).run P w = .ok () w := by
        simp [Instr.checkKey, bv, run_underlying he, pure, Sem.run]
      rw [List.range'_succ]
      simp only [List.forIn_cons, Sem.run_bind, hs, Result.andThen_ok, p1, p2, Sem.run_pure]
      exact ih (j + 1) (by omega)
  have := key m 0 (by omega)
  rw [this]
  simp [pure, Sem.run]

theorem sameBits_leaf {m k mm} {l : List (BitVec mm)} {h : l.length = m} (d : Nat) : Instr.sameBits (d + 1) (vagg [leaf k m l h]) (vagg [leaf k m l h]) = true := by
  have key : ∀ (vs : List Value) (d : Nat), (∀ v ∈ vs, ∃ z, v = .int k z) → (vs.zip vs).all (fun p => Instr.sameBits d p.1 p.2) = true := by
    intro vs d
    induction vs with
    | nil => intro _; rfl
    | cons v vs ih =>
      intro hv
      obtain ⟨z, rfl⟩ := hv v (by simp)
      simp only [List.zip_cons_cons, List.all_cons, Bool.and_eq_true]
      refine ⟨?_, ih fun u hu => hv u (List.mem_cons_of_mem _ hu)⟩
      cases d <;> simp [Instr.sameBits]
  simp only [vagg, Instr.sameBits, beq_self_eq_true, Bool.true_and]
  exact key _ d (by intro v hv; simp [flat, leaf] at hv; obtain ⟨x, _, rfl⟩ := hv; exact ⟨_, rfl⟩)

abbrev L32 := { l : List (BitVec 8) // l.length = 32 }
def vL32 (h : L32) : Value := vagg [leaf .u8 32 h.1 h.2]
theorem keyR32 {T e k' ei} (hT : P.underlying T = some (.array 32 e)) (he : P.underlying e = some (.int k')) (hA : ∀ w, (isAgg e).run P w = .ok false w) (hs : ∀ w, (sizeOf e).run P w = .ok 1 w) (hi : P.info? e = some ei) (hc : P.cellsOf e = 1) :
    KeyR P T vL32 where
  chk em a w := checkKey_leaf (d := 9998) hT he hA hs em w
  find k l w := by
    rw [run_findKey_eq w (by simp [hT])]
    refine findAsking_run (fun a b => ?_) k w l 0
    refine (eq_leaf (d := 9998) hT he hA hi hc).to ?_
    rw [decide_eq_decide]
    exact ⟨fun h => Subtype.ext h, fun h => by rw [h]⟩
  same a := sameBits_leaf 9999

/-! ### numbers as keys -/
theorem findNow_int {k' : IntKind} {f : α → Value} {g : α → Int} (hf : ∀ a, f a = .int k' (g a)) (hg : ∀ a b, g a = g b → a = b) (k : α) : ∀ (l : List (Me α)) (i : Nat), Instr.findNow (.int k') (f k) (ments f l) i = some (mFind k l i)
  | [], i => rfl
  | x :: l, i => by
    simp only [ments, List.map_cons, Instr.findNow, hf, Instr.sameNow, if_true, mFind]
    by_cases h : k = x.key
    · simp [h]
    · have : (g k == g x.key) = false := by simpa using fun h' => h (hg _ _ h')
      rw [this, if_neg h]
      have ih := findNow_int hf hg k l (i + 1)
      simp only [ments, hf] at ih
      simpa using ih
theorem keyRint {T k'} {f : α → Value} {g : α → Int} (hf : ∀ a, f a = .int k' (g a)) (hg : ∀ a b, g a = g b → a = b) (hT : P.underlying T = some (.int k')) : KeyR P T f where
  chk em a w := by
    rw [hf, show (10000 : Nat) = 9999 + 1 from rfl, Instr.checkKey]
    simp only [Sem.run_bind, run_underlying hT, Result.andThen_ok]
    rfl
  find k l w := by
    have := findNow_int hf hg k l 0
    simp only [Instr.findKey, Sem.run_bind, run_underlying hT, Result.andThen_ok, this]
    simp [pure, Sem.run]
  same a := by rw [hf]; simp [Instr.sameBits]

/-! ### operations -/
theorem getObj_run {α : Type} {f : α → Value} {r : Nat} {l : List (Me α)} {c : Nat} {w : World} (h : w.heap[r]? = some (mObj f l c)) : (getObj r).run P w = .ok (mObj f l c) w := by
  simp [getObj, Sem.run, h, mObj]
theorem y_lookupOk {T Kt et b : Nat} {l : List (Me α)} {c : Nat} {k : α} {zv : Value} (hT : ∀ w, (underlying T).run P w = .ok (.map Kt et) w) (hK : KeyR P Kt f) (hz : ∀ w, (zeroValue et).run P w = .ok zv w)
    (hx : val E x = some (.map (some b))) (hy : val E y = some (f k)) (hm : ∀ w, S w → w.heap[b]? = some (mObj f l c)) :
    Yl P S E (.lookup T x y true) (.tuple #[((mFind k l 0).map (·.2)).getD zv, .bool (mFind k l 0).isSome]) := by
  intro _ _ _ _ _ ρ hρ w hS
  have h1 := getObj_run (P := P) (hm w hS)
  have h2 := hK.find k l w
  simp only [execOp, hρ _ _ hx, hρ _ _ hy, Instr.lookup, Sem.run_bind, hT, Result.andThen_ok, h1, mObj, Sem.run_pure, hK.chk, List.toList_toArray]
  rw [h2]
  cases hf : mFind k l 0 with
  | none => simp [hz, Sem.run_bind, pure, Sem.run]
  | some r => obtain ⟨i, v⟩ := r; simp [Sem.run_bind, pure, Sem.run]
theorem y_lookup1 {T Kt et b : Nat} {l : List (Me α)} {c : Nat} {k : α} {zv : Value} (hT : ∀ w, (underlying T).run P w = .ok (.map Kt et) w) (hK : KeyR P Kt f) (hz : ∀ w, (zeroValue et).run P w = .ok zv w)
    (hx : val E x = some (.map (some b))) (hy : val E y = some (f k)) (hm : ∀ w, S w → w.heap[b]? = some (mObj f l c)) :
    Yl P S E (.lookup T x y false) (((mFind k l 0).map (·.2)).getD zv) := by
  intro _ _ _ _ _ ρ hρ w hS
  have h1 := getObj_run (P := P) (hm w hS)
  have h2 := hK.find k l w
  simp only [execOp, hρ _ _ hx, hρ _ _ hy, Instr.lookup, Sem.run_bind, hT, Result.andThen_ok, h1, mObj, Sem.run_pure, hK.chk, List.toList_toArray]
  rw [h2]
  cases hf : mFind k l 0 with
  | none => simp [hz, Sem.run_bind, pure, Sem.run]
  | some r => obtain ⟨i, v⟩ := r; simp [Sem.run_bind, pure, Sem.run]
theorem y_lenM {T Kt et b : Nat} {l : List (Me α)} {c : Nat} {tys : Array TypeId} (hT : ∀ w, (underlying T).run P w = .ok (.map Kt et) w)
    (hx : val E x = some (.map (some b))) (hm : ∀ w, S w → w.heap[b]? = some (mObj f l c)) : Yl P S E (.call ⟨.builtin .len, #[x], #[T]⟩) (vI (l.length : Int)) := by
  intro _ _ _ _ _ ρ hρ w hS
  have h1 := getObj_run (P := P) (hm w hS)
  simp only [execOp, resolve, invoke, builtin, Builtin.len_, List.map_toArray, List.map_cons, List.map_nil, hρ _ _ hx, Sem.run_bind, pure, Sem.run_pure, Result.andThen_ok]
  simp [hT, h1, mObj, ments, pure, Sem.run, goInt]

theorem o_makeMap {α : Type} {f : α → Value} {T t : Nat} (ht : Nat.blt t n = true)
    (h : ∀ b, J n D ((t, .map (some b)) :: E) σ ([(b, mObj f [] 0)] :: M) K) : J n D E σ M (Op1 P ops Q ⟨some t, .makeMap T none, ty, pos, after, none⟩ K) := by
  intro a w hA hS
  refine op1_run (r := .ok (.value (.map (some w.heap.size))) (w.alloc (mObj f [] 0))) rfl ?_ ?_
  · simp [execOp, Instr.makeMap, newObj, mObj, ments, pure, Sem.run]
  · exact h _ _ _ (hA.put t _ ht) (hS.alloc _)

/-- the entries with one more, or with another value -/
def mPut (k : α) (v : Value) (l : List (Me α)) (c : Nat) : List (Me α) × Nat :=
  match mFind k l 0 with
  | some (i, _) => (l.modify i fun e => { e with val := v }, c)
  | none => (l ++ [⟨k, v, c⟩], c + 1)
theorem mFind_spec (k : α) : ∀ (l : List (Me α)) (i j : Nat) (v : Value), mFind k l i = some (j, v) → ∃ e, i ≤ j ∧ l[j - i]? = some e ∧ e.key = k ∧ e.val = v
  | [], _, _, _, h => by cases h
  | x :: l, i, j, v, h => by
    simp only [mFind] at h
    split at h
    · rename_i hk
      simp only [Option.some.injEq, Prod.mk.injEq] at h
      obtain ⟨rfl, rfl⟩ := h
      exact ⟨x, Nat.le_refl _, by simp, hk.symm, rfl⟩
    · obtain ⟨e, h1, h2, h3⟩ := mFind_spec k l (i + 1) j v h
      refine ⟨e, by omega, ?_, h3⟩
      have : j - i = (j - (i + 1)) + 1 := by omega
      rw [this, List.getElem?_cons_succ]; exact h2
theorem setObj_run {α : Type} {f : α → Value} {r : Nat} {l l' : List (Me α)} {c c' : Nat} {w : World} (h : w.heap[r]? = some (mObj f l c)) : (setObj r (mObj f l' c')).run P w = .ok () (w.putObj r (mObj f l' c')) := by
  simp [setObj, Sem.run, World.putObj, h, mObj]
theorem o_mapUpdate {T Kt et b i : Nat} {l : List (Me α)} {c : Nat} {k : α} {v : Value} {op : Op} (hop : op = .mapUpdate T x y z ∨ op = .insert T x y z) (hT : ∀ w, (underlying T).run P w = .ok (.map Kt et) w) (hK : KeyR P Kt f)
    (hx : val E x = some (.map (some b))) (hy : val E y = some (f k)) (hz : val E z = some v)
    [hu : Pos b (mObj f l c) M i] (hs : setSeg M i [(b, mObj f (mPut k v l c).1 (mPut k v l c).2)] [] = some M')
    (h : J n D E σ M' K) : J n D E σ M (Op1 P ops Q ⟨none, op, ty, pos, after, none⟩ K) := by
  have hup := pos_upd hu hs
  intro a w hA hS
  have hb := hS.own _ hup.mem.1
  have h1 := getObj_run (P := P) hb
  have h2 := hK.find k l w
  refine op1_run (r := .ok .skip (w.putObj b (mObj f (mPut k v l c).1 (mPut k v l c).2))) rfl ?_ ?_
  · have hrun : (Instr.mapUpdate T (.map (some b)) (f k) v).run P w = .ok () (w.putObj b (mObj f (mPut k v l c).1 (mPut k v l c).2)) := by
      simp only [Instr.mapUpdate, Sem.run_bind, hT, Result.andThen_ok, h1, mObj, hK.chk]
      rw [h2]
      cases hf : mFind k l 0 with
      | none =>
        simp only [mPut, hf, Result.andThen_ok]
        have := setObj_run (P := P) (f := f) (l := l) (l' := l ++ [⟨k, v, c⟩]) (c := c) (c' := c + 1) hb
        simp only [mObj, ments, List.map_append, List.map_cons, List.map_nil] at this
        simpa [ments] using this
      | some r =>
        obtain ⟨i, u⟩ := r
        obtain ⟨e, _, he, hk, _⟩ := mFind_spec k l 0 i u hf
        simp only [Nat.sub_zero] at he
        have hkey : (((ments f l).toArray[i]?).map (·.key)).getD (f k) = f k := by
          simp [ments, he, hk]
        simp only [mPut, hf, Result.andThen_ok, Sem.run_bind, hkey, Instr.keyThatStays, hK.same, if_true, Sem.run_pure, Result.andThen_ok]
        have := setObj_run (P := P) (f := f) (l := l) (l' := l.modify i fun e => { e with val := v }) (c := c) (c' := c) hb
        simp only [mObj] at this
        have hm : (ments f l).toArray.modify i (fun e => { e with key := f k, val := v }) = (ments f (l.modify i fun e => { e with val := v })).toArray := by
          apply Array.toList_inj.1
          simp only [Array.toList_modify, ments]
          apply List.ext_getElem?
          intro j
          simp only [List.getElem?_modify, List.getElem?_map]
          by_cases hij : i = j
          · subst hij; simp [he, hk]
          · simp [hij]
        rw [hm]
        exact this
    rcases hop with rfl | rfl <;> (simp only [execOp, hA.eval hx, hA.eval hy, hA.eval hz, Sem.run_bind, hrun, Result.andThen_ok, pure]; rfl)
  · exact h a _ hA (putObj_st hS hup)
end
end Go.V
