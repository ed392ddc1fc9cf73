/- '==' on arrays and structs. -/
import Derived.Test.YtjoniieoaokimaaGreatVNum4
import Derived.Laws.StructEq
import Derived.ChangeKeysEq
set_option linter.unusedVariables false
set_option linter.unusedSimpArgs false
set_option linter.unusedSectionVars false
set_option autoImplicit true
set_option relaxedAutoImplicit true
namespace Go.V
section
variable {P : Program} {E : Env} {S : World → Prop} {x y : Operand}
def EqR (P : Program) (d : Nat) (T : TypeId) (u v : Value) (b : Bool) : Prop := ∀ w, (Op.equalIn d T u v).run P w = .ok b w

theorem EqR.to {d T u v b b'} (h : EqR P d T u v b) (he : b = b') : EqR P d T u v b' := he ▸ h
theorem eq_int {d T k k' a b} (hT : P.underlying T = some (.int k')) : EqR P (d + 1) T (.int k a) (.int k b) (decide (a = b)) := fun w => by
  rw [run_equalIn_int w d T k k' a b hT]
  have : (a == b) = decide (a = b) := by rw [Bool.eq_iff_iff]; simp
  rw [this]
theorem eq_bv {d T k k' m} {a b : BitVec m} (hT : P.underlying T = some (.int k')) : EqR P (d + 1) T (bv k a) (bv k b) (decide (a = b)) := (eq_int hT).to (by
  rw [decide_eq_decide]; exact ⟨fun h => BitVec.eq_of_toNat_eq (by omega), fun h => by rw [h]⟩)
theorem eq_bool {d T} {a b : Bool} (hT : P.underlying T = some .bool) : EqR P (d + 1) T (.bool a) (.bool b) (decide (a = b)) := fun w => by
  rw [run_equalIn_bool' w d T a b hT]
  have : (a == b) = decide (a = b) := by rw [Bool.eq_iff_iff]; simp
  rw [this]

theorem part1 {T off ps v} (hA : ∀ w, (isAgg T).run P w = .ok false w) (hc : cellAt ps off = some v) (w : World) : (part T (flat ps).toArray off).run P w = .ok v w := by
  have h2 := cellAt_flat _ _ _ hc
  simp [part, hA, h2, Sem.run, pure]
theorem partN {T off ps m qs} (hA : ∀ w, (isAgg T).run P w = .ok true w) (hz : ∀ w, (sizeOf T).run P w = .ok m w) (hc : spanAt ps off m = some qs) (w : World) : (part T (flat ps).toArray off).run P w = .ok (vagg qs) w := by
  have h2 := span_extract hc
  simp only [part, hA, hz, Sem.run_bind, Result.andThen, if_true, h2, pure, Sem.run, vagg]

theorem eq_leaf {d T e n k k' m} {l l' : List (BitVec m)} {h : l.length = n} {h' : l'.length = n} {ei : TypeInfo} (hT : P.underlying T = some (.array n e)) (he : P.underlying e = some (.int k')) (hA : ∀ w, (isAgg e).run P w = .ok false w) (hi : P.info? e = some ei) (hs : P.cellsOf e = 1) :
    EqR P (d + 2) T (vagg [leaf k n l h]) (vagg [leaf k n l' h']) (decide (l = l')) := by
  intro w
  rw [vagg, vagg, run_equalIn_array w (d + 1) _ _ hT hi, hs]
  have key : ∀ (r j : Nat), j + r = n → (Op.eqItems (d + 1) e 1 (flat [leaf k n l h]).toArray (flat [leaf k n l' h']).toArray (List.range' j r)).run P w = .ok (decide (l.drop j = l'.drop j)) w := by
    intro r
    induction r with
    | zero =>
      intro j hj
      simp [Op.eqItems, List.drop_eq_nil_of_le (show l.length ≤ j by omega), List.drop_eq_nil_of_le (show l'.length ≤ j by omega)]
    | succ r ih =>
      intro j hj
      have hjl : j < l.length := by omega
      have hjl' : j < l'.length := by omega
      have p1 := part1 (P := P) (T := e) (off := j * 1) hA (by rw [Nat.mul_one]; exact leaf_cell (k := k) (h := h) (show j < n by omega)) w
      have p2 := part1 (P := P) (T := e) (off := j * 1) hA (by rw [Nat.mul_one]; exact leaf_cell (k := k) (h := h') (show j < n by omega)) w
      have p3 := eq_bv (P := P) (d := d) (T := e) (k := k) (a := l.getD j 0#m) (b := l'.getD j 0#m) he w
      rw [List.range'_succ]
      simp only [Op.eqItems, Sem.run_bind, p1, p2, p3, Result.andThen]
      have e1 : l.getD j 0#m = l[j] := by simp [List.getD, List.getElem?_eq_getElem hjl]
      have e2 : l'.getD j 0#m = l'[j] := by simp [List.getD, List.getElem?_eq_getElem hjl']
      have d1 : l.drop j = l[j] :: l.drop (j + 1) := List.drop_eq_getElem_cons hjl
      have d2 : l'.drop j = l'[j] :: l'.drop (j + 1) := List.drop_eq_getElem_cons hjl'
      rw [d1, d2]
      by_cases hxy : l[j] = l'[j]
      · have hd : (decide (l.getD j 0#m = l'.getD j 0#m)) = true := by rw [e1, e2]; simpa using hxy
        simp only [hd, Bool.not_true, Bool.false_eq_true, if_false, ih (j + 1) (by omega)]
        rw [hxy]
        congr 1
        rw [decide_eq_decide]
        exact ⟨fun h => by rw [h], fun h => (List.cons.inj h).2⟩
      · have hd : (decide (l.getD j 0#m = l'.getD j 0#m)) = false := by rw [e1, e2]; simpa using hxy
        simp only [hd, Bool.not_false, if_true, pure, Sem.run]
        rw [decide_eq_false (fun h => hxy (List.cons.inj h).1)]
  have := key n 0 (by omega)
  rw [List.range_eq_range']
  simpa using this

/-- the fields of a struct, one by one -/
inductive EqFs (P : Program) (d : Nat) (ps qs : List Part) : List Field → Bool → Prop
  | nil : EqFs P d ps qs [] true
  | one {f fs u v r r'} (hn : (f.name != "_") = true) (hA : ∀ w, (isAgg f.type).run P w = .ok false w) (hu : cellAt ps f.offset = some u) (hv : cellAt qs f.offset = some v) (he : EqR P d f.type u v r) (h : EqFs P d ps qs fs r') : EqFs P d ps qs (f :: fs) (r && r')
  | agg {f fs m us vs r r'} (hn : (f.name != "_") = true) (hA : ∀ w, (isAgg f.type).run P w = .ok true w) (hz : ∀ w, (sizeOf f.type).run P w = .ok m w) (hu : spanAt ps f.offset m = some us) (hv : spanAt qs f.offset m = some vs) (he : EqR P d f.type (vagg us) (vagg vs) r) (h : EqFs P d ps qs fs r') : EqFs P d ps qs (f :: fs) (r && r')
theorem EqFs.run {d ps qs fs b} (h : EqFs P d ps qs fs b) (w : World) : (Op.eqFields d (flat ps).toArray (flat qs).toArray fs).run P w = .ok b w := by
  induction h with
  | nil => simp [Op.eqFields, pure, Sem.run]
  | @one f fs u v r r' hn hA hu hv he h ih =>
    have hn' : f.name ≠ "_" := by simpa using hn
    simp only [Op.eqFields, ne_eq, hn', not_false_eq_true, if_true, Sem.run_bind, part1 hA hu, part1 hA hv, he w, Result.andThen]
    cases r <;> simp [ih, pure, Sem.run]
  | @agg f fs m us vs r r' hn hA hz hu hv he h ih =>
    have hn' : f.name ≠ "_" := by simpa using hn
    simp only [Op.eqFields, ne_eq, hn', not_false_eq_true, if_true, Sem.run_bind, partN hA hz hu, partN hA hz hv, he w, Result.andThen]
    cases r <;> simp [ih, pure, Sem.run]
theorem eq_struct {d T ps qs b} {fs : List Field} (hT : P.underlying T = some (.struct (P.fieldsOf T))) (hfs : (P.fieldsOf T).toList = fs) (hp : P.stoodInHeld T = false) (h : EqFs P d ps qs fs b) : EqR P (d + 1) T (vagg ps) (vagg qs) b := fun w => by
  rw [vagg, vagg, run_equalIn_struct w d T _ _ hT hp, hfs]
  exact h.run w

theorem y_eqlA {T U ps qs b} (hx : val E x = some (vagg ps)) (hy : val E y = some (vagg qs)) (hg : P.eqGuardType P.depth T = false) (he : EqR P 10000 T (vagg ps) (vagg qs) b) : Yl P S E (.binOp .eql T x y U) (.bool b) := by
  intro _ _ _ _ _ ρ hρ w hS
  have h1 := run_eqGuard_agg (P := P) w .eql T x y (flat ps).toArray (flat qs).toArray hg
  have h2 := run_eql_struct (P := P) w T (flat ps).toArray (flat qs).toArray
  have h3 := he w
  simp only [vagg] at h3
  rw [h3] at h2
  simp only [execOp, hρ _ _ hx, hρ _ _ hy, vagg, Sem.run_bind, h1, h2, Result.andThen, pure, Sem.run]
theorem y_neqA {T U ps qs b} (hx : val E x = some (vagg ps)) (hy : val E y = some (vagg qs)) (hg : P.eqGuardType P.depth T = false) (he : EqR P 10000 T (vagg ps) (vagg qs) b) : Yl P S E (.binOp .neq T x y U) (.bool (!b)) := by
  intro _ _ _ _ _ ρ hρ w hS
  have h1 := run_eqGuard_agg (P := P) w .neq T x y (flat ps).toArray (flat qs).toArray hg
  have h2 := run_neq_struct (P := P) w T (flat ps).toArray (flat qs).toArray
  have h3 := he w
  simp only [vagg] at h3
  rw [h3] at h2
  simp only [execOp, hρ _ _ hx, hρ _ _ hy, vagg, Sem.run_bind, h1, h2, Result.andThen, pure, Sem.run]

/-- two numbers of four words -/
theorem eq_wide {d T e k' n m ei} (hn : n < M256) (hm : m < M256) (hT : P.underlying T = some (.array 4 e)) (he : P.underlying e = some (.int k')) (hA : ∀ w, (isAgg e).run P w = .ok false w) (hi : P.info? e = some ei) (hs : P.cellsOf e = 1) :
    EqR P (d + 2) T (vW n) (vW m) (decide (n = m)) := by
  have := eq_leaf (P := P) (d := d) (k := .u64) (n := 4) (l := [nw n 0, nw n 1, nw n 2, nw n 3]) (l' := [nw m 0, nw m 1, nw m 2, nw m 3]) (h := rfl) (h' := rfl) hT he hA hi hs
  refine EqR.to (b := decide ([nw n 0, nw n 1, nw n 2, nw n 3] = [nw m 0, nw m 1, nw m 2, nw m 3])) this ?_
  rw [decide_eq_decide]
  constructor
  · intro h
    simp only [List.cons.injEq, and_true] at h
    rw [← wn_nw hn, ← wn_nw hm, h.1, h.2.1, h.2.2.1, h.2.2.2]
  · rintro rfl; rfl
end
end Go.V
