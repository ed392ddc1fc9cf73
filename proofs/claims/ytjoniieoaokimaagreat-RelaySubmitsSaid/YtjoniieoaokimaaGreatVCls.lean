/- What is found by looking through the heap list. -/
import Derived.Test.YtjoniieoaokimaaGreatVAny
set_option linter.unusedVariables false
set_option linter.unusedSimpArgs false
set_option linter.unusedSectionVars false
set_option autoImplicit true
set_option relaxedAutoImplicit true
namespace Go.V
section
variable {P : Program} {ops : Array Oper} {Q : Exit → Act → World → Prop} {K : Act → World → Prop} {n : Nat} {D : List Deferred} {E : Env} {σ : Bs} {M M' N : List Seg} {o : Oper} {rest : List Oper}
variable {ty : TypeId} {pos : String} {after : Array Edge} {x y z : Operand}

class InS (b : Nat) (ob : outParam Obj) (N : List Seg) : Prop where
  mem : (b, ob) ∈ N.flatten
instance (priority := 2000) inS_here {b : Nat} {ob : Obj} {N : List Seg} : InS b ob ([(b, ob)] :: N) := ⟨by simp⟩
instance inS_there {b : Nat} {ob : Obj} {S : Seg} {N : List Seg} [h : InS b ob N] : InS b ob (S :: N) := ⟨by have := h.mem; simp only [List.flatten_cons, List.mem_append]; exact .inr this⟩
instance (priority := 1500) inS_right {b : Nat} {ob : Obj} {R N : List Seg} [h : InS b ob N] : InS b ob (R ++ N) := ⟨by have := h.mem; rw [List.flatten_append, List.mem_append]; exact .inr this⟩
instance inS_left {b : Nat} {ob : Obj} {R N : List Seg} [h : InS b ob R] : InS b ob (R ++ N) := ⟨by have := h.mem; rw [List.flatten_append, List.mem_append]; exact .inl this⟩

class Pos (b : Nat) (ob : outParam Obj) (N : List Seg) (i : outParam Nat) : Prop where
  get : N[i]? = some [(b, ob)]
instance (priority := 2000) pos_here {b : Nat} {ob : Obj} {N : List Seg} : Pos b ob ([(b, ob)] :: N) 0 := ⟨rfl⟩
instance pos_there {b : Nat} {ob : Obj} {S : Seg} {N : List Seg} {i : Nat} [h : Pos b ob N i] : Pos b ob (S :: N) (i + 1) := ⟨by have := h.get; simpa using this⟩

def rvS : List Seg → List Seg → Option (List Seg)
  | [], acc => some acc
  | p :: ps, acc => rvS ps (p :: acc)
def setSeg : List Seg → Nat → Seg → List Seg → Option (List Seg)
  | [], _, _, _ => none
  | _ :: M, 0, S', acc => rvS acc (S' :: M)
  | S :: M, i + 1, S', acc => setSeg M i S' (S :: acc)
theorem rvS_eq : ∀ (ps acc qs : List Seg), rvS ps acc = some qs → qs = ps.reverse ++ acc
  | [], acc, qs, h => by simp [rvS] at h; simp [h]
  | p :: ps, acc, qs, h => by rw [rvS_eq ps (p :: acc) qs h]; simp
theorem setSeg_upd {b : Nat} {ob ob' : Obj} : ∀ (M : List Seg) (i : Nat) (acc qs : List Seg), M[i]? = some [(b, ob)] → setSeg M i [(b, ob')] acc = some qs → ∃ M', Upd b ob ob' M M' ∧ qs = acc.reverse ++ M'
  | [], _, _, _, h, _ => by simp at h
  | S :: M, 0, acc, qs, h, h' => by
    simp only [List.getElem?_cons_zero, Option.some.injEq] at h
    subst h
    exact ⟨_, Upd.one, rvS_eq _ _ _ h'⟩
  | S :: M, i + 1, acc, qs, h, h' => by
    simp only [List.getElem?_cons_succ] at h
    obtain ⟨M', h1, h2⟩ := setSeg_upd M i (S :: acc) qs h h'
    exact ⟨S :: M', .there h1, by simpa using h2⟩
theorem pos_upd {b : Nat} {ob ob' : Obj} {i : Nat} (hp : Pos b ob M i) (hs : setSeg M i [(b, ob')] [] = some M') : Upd b ob ob' M M' := by
  obtain ⟨M'', h1, h2⟩ := setSeg_upd M i [] M' hp.get hs
  simpa [h2] using h1

class TakeC (S : Seg) (M : List Seg) (F : outParam (List Seg)) : Prop where
  take : Take S M F
instance (priority := 2000) take_here {S : Seg} {M : List Seg} : TakeC S (S :: M) M := ⟨.here⟩
instance take_there {S X : Seg} {M F : List Seg} [h : TakeC S M F] : TakeC S (X :: M) (X :: F) := ⟨.there h.take⟩
class TakesC (L : List Seg) (M : List Seg) (F : outParam (List Seg)) : Prop where
  takes : Takes L M F
instance takes_nil {M : List Seg} : TakesC [] M M := ⟨.nil⟩
instance takes_cons {S : Seg} {L M M1 F : List Seg} [h : TakeC S M M1] [h' : TakesC L M1 F] : TakesC (S :: L) M F := ⟨.cons h.take h'.takes⟩

theorem mem_pts {b : Nat} {ob : Obj} (h : InS b ob N) : ∀ w, Pts N w → w.heap[b]? = some ob := fun _ hw => hw _ h.mem

theorem l1 {T b off T0 ps v} (hA : ∀ w, (isAgg T).run P w = .ok false w) (hx : val E x = some (.pointer (some ⟨b, off, none⟩))) [hm : InS b (obj T0 ps) N] (hc : cellAt ps off = some v) :
    Yl P (Pts N) E (.load T x) v := y_load1 hA hx (mem_pts hm) hc
theorem lN {T b off T0 ps m qs} (hA : ∀ w, (isAgg T).run P w = .ok true w) (hz : ∀ w, (sizeOf T).run P w = .ok m w) (hx : val E x = some (.pointer (some ⟨b, off, none⟩))) [hm : InS b (obj T0 ps) N]
    (hc : spanAt ps off m = some qs) : Yl P (Pts N) E (.load T x) (vagg qs) := y_loadN hA hz hx (mem_pts hm) hc

theorem st1 {T T0 b off i : Nat} {v ps rs} {h1 : one1 v = true} (hm : ∀ w, (sizeOf T).run P w = .ok 1 w) (hx : val E x = some (.pointer (some ⟨b, off, none⟩))) (hy : val E y = some v)
    [hu : Pos b (obj T0 ps) M i] (hp : putAt ps off 1 [P1 v h1] [] = some rs) (hs : setSeg M i [(b, obj T0 rs)] [] = some M')
    (h : J n D E σ M' K) : J n D E σ M (Op1 P ops Q ⟨none, .store T x y, ty, pos, after, none⟩ K) :=
  o_store hm hx hy (.one h1) (pos_upd hu hs) hp rfl h
theorem stN {T T0 m b off i : Nat} {ps qs rs} (hm : ∀ w, (sizeOf T).run P w = .ok m w) (hx : val E x = some (.pointer (some ⟨b, off, none⟩))) (hy : val E y = some (vagg qs))
    [hu : Pos b (obj T0 ps) M i] (hp : putAt ps off m qs [] = some rs) (htot : total qs = m) (hs : setSeg M i [(b, obj T0 rs)] [] = some M')
    (h : J n D E σ M' K) : J n D E σ M (Op1 P ops Q ⟨none, .store T x y, ty, pos, after, none⟩ K) :=
  o_store hm hx hy .agg (pos_upd hu hs) hp htot h

theorem r1 {t T b off T0 ps v} (hA : ∀ w, (isAgg T).run P w = .ok false w) (hx : look E t = some (.pointer (some ⟨b, off, none⟩))) [hm : InS b (obj T0 ps) N] (hc : cellAt ps off = some v) : ResV P E N (.cell t T) v :=
  .cell1 hA hx hm.mem hc
theorem rN {t T b off T0 ps m qs} (hA : ∀ w, (isAgg T).run P w = .ok true w) (hz : ∀ w, (sizeOf T).run P w = .ok m w) (hx : look E t = some (.pointer (some ⟨b, off, none⟩))) [hm : InS b (obj T0 ps) N] (hc : spanAt ps off m = some qs) : ResV P E N (.cell t T) (vagg qs) :=
  .cellN hA hz hx hm.mem hc

instance (priority := 500) subM_nil {M : List Seg} : SubM [] M := ⟨fun _ h => (by simp at h)⟩
instance (priority := 400) subM_take {S : Seg} {N M F : List Seg} [h : TakeC S M F] [h' : SubM N M] : SubM (S :: N) M := ⟨fun p hp => by
  simp only [List.flatten_cons, List.mem_append] at hp
  rcases hp with hp | hp
  · exact h.take.perm.mem_iff.2 (by simp only [List.flatten_cons, List.mem_append]; exact .inl hp)
  · exact h'.sub p hp⟩
/-- blocks that are kept as they are -/
class KeepC (bs : List Nat) (N : List Seg) (L : outParam (List Seg)) : Prop where
  sub : True
instance keep_nil {N : List Seg} : KeepC [] N [] := ⟨trivial⟩
instance keep_cons {b : Nat} {ob : Obj} {bs : List Nat} {N L : List Seg} [InS b ob N] [KeepC bs N L] : KeepC (b :: bs) N ([(b, ob)] :: L) := ⟨trivial⟩
/-- S: these blocks, and what is to be read -/
theorem d_regK {id : Nat} {l : List Oper} (bs : List Nat) (m : Nat) {sz : Nat} {L : List Seg} (hm : P.follows .mixedOrders = true) (hf : l.length = sz) [KeepC bs M L]
    (h : J n D E σ M (G P l.toArray Q m (Pts (σ.R ++ L)) sz sz 0)) : J n D E σ M ((Code.region id l.toArray true).wp P Q) := d_region m _ hm hf h

/-! ### parting the ways -/
theorem j_bool {b : Bool} (d : Nat) (hx : look E d = some (.bool b)) (ht : b = true → J n D ((d, .bool true) :: E) σ M K) (hf : b = false → J n D ((d, .bool false) :: E) σ M K) : J n D E σ M K := by
  intro a w hA hS
  cases b with
  | true =>
    refine ht rfl a w ⟨hA.defers, hA.size, fun t v hv => ?_⟩ hS
    simp only [look] at hv
    cases hb : Nat.beq d t with
    | true => rw [hb] at hv; simp at hv; subst hv; have : d = t := Nat.eq_of_beq_eq_true hb; subst this; exact hA.look _ _ hx
    | false => rw [hb] at hv; exact hA.look _ _ hv
  | false =>
    refine hf rfl a w ⟨hA.defers, hA.size, fun t v hv => ?_⟩ hS
    simp only [look] at hv
    cases hb : Nat.beq d t with
    | true => rw [hb] at hv; simp at hv; subst hv; have : d = t := Nat.eq_of_beq_eq_true hb; subst this; exact hA.look _ _ hx
    | false => rw [hb] at hv; exact hA.look _ _ hv
theorem j_if {p : Prop} [Decidable p] (d : Nat) (hx : look E d = some (.bool (decide p))) (ht : p → J n D ((d, .bool true) :: E) σ M K) (hf : ¬ p → J n D ((d, .bool false) :: E) σ M K) : J n D E σ M K :=
  j_bool d hx (fun h => ht (of_decide_eq_true h)) (fun h => hf (of_decide_eq_false h))
theorem j_ifn {p : Prop} [Decidable p] (d : Nat) (hx : look E d = some (.bool (!decide p))) (ht : ¬ p → J n D ((d, .bool true) :: E) σ M K) (hf : p → J n D ((d, .bool false) :: E) σ M K) : J n D E σ M K :=
  j_bool d hx (fun h => ht (by simpa using h)) (fun h => hf (by simpa using h))
/-- a slot, spelled otherwise -/
theorem j_re {v v' : Value} (d : Nat) (hx : look E d = some v) (he : v = v') (h : J n D ((d, v') :: E) σ M K) : J n D E σ M K := by
  subst he
  refine fun a w hA hS => h a w ⟨hA.defers, hA.size, fun t u hu => ?_⟩ hS
  simp only [look] at hu
  cases hb : Nat.beq d t with
  | true => rw [hb] at hu; simp at hu; subst hu; have : d = t := Nat.eq_of_beq_eq_true hb; subst this; exact hA.look _ _ hx
  | false => rw [hb] at hu; exact hA.look _ _ hu

/-! ### words of some kinds -/
/-- a row of numbers of one kind -/
def leaf (k : IntKind) {m : Nat} (n : Nat) (l : List (BitVec m)) (h : l.length = n) : Part :=
  ⟨n, l.map (bv k), by simp [h], by intro v hv; obtain ⟨x, _, rfl⟩ := List.mem_map.1 hv; rfl⟩
theorem leaf_cell {k : IntKind} {m n : Nat} {l : List (BitVec m)} {h : l.length = n} {i : Nat} (hi : i < n) : cellAt [leaf k n l h] i = some (bv k (l.getD i 0#m)) := by
  have hb : Nat.blt i n = true := by rw [Nat.blt_eq]; exact hi
  have hl : i < l.length := by omega
  simp [cellAt, leaf, hb, List.getElem?_map, List.getElem?_eq_getElem hl]
/-- zeros -/
def zleaf (k : IntKind) (m n : Nat) : Part := leaf k n (List.replicate n 0#m) (by simp)

theorem over_leaf {k : IntKind} {m n : Nat} {l : List (BitVec m)} {h : l.length = n} {i : Nat} (hi : i < n) (v : BitVec m) :
    over (flat [leaf k n l h]) i [bv k v] = flat [leaf k n (l.set i v) (by simp [h])] ∧ i + 1 ≤ (flat [leaf k n l h]).length := by
  simp only [flat, leaf, List.append_nil, over, List.length_cons, List.length_nil, List.length_map]
  refine ⟨?_, by omega⟩
  rw [List.set_eq_take_append_cons_drop, if_pos (by omega), List.map_append, List.map_cons, List.map_take, List.map_drop]
  simp

/-- an element of a block that is one row -/
theorem lE {T b : Nat} {off : Nat} {T0 : TypeId} {k : IntKind} {m m' : Nat} {l : List (BitVec m)} {hl : l.length = m'} (hA : ∀ w, (isAgg T).run P w = .ok false w) (hx : val E x = some (.pointer (some ⟨b, off, none⟩)))
    [hm : InS b (obj T0 [leaf k m' l hl]) N] (i : Nat) (ho : off = i) (hi : i < m') : Yl P (Pts N) E (.load T x) (bv k (l.getD i 0#m)) :=
  y_load1 hA hx (mem_pts hm) (by rw [ho]; exact leaf_cell hi)
theorem o_storeE {T T0 b off i : Nat} {k : IntKind} {m m' : Nat} {l : List (BitVec m)} {hl : l.length = m'} {v : BitVec m} (hm : ∀ w, (sizeOf T).run P w = .ok 1 w) (hx : val E x = some (.pointer (some ⟨b, off, none⟩))) (hy : val E y = some (bv k v))
    [hu : Pos b (obj T0 [leaf k m' l hl]) M i] (j : Nat) (ho : off = j) (hj : j < m') (hs : setSeg M i [(b, obj T0 [leaf k m' (l.set j v) (by simp [hl])])] [] = some M')
    (h : J n D E σ M' K) : J n D E σ M (Op1 P ops Q ⟨none, .store T x y, ty, pos, after, none⟩ K) := by
  subst ho
  have hup := pos_upd hu hs
  intro a w hA hS
  obtain ⟨h1, h2⟩ := over_leaf (k := k) (h := hl) hj v
  obtain ⟨w', r1, r2, r3, r4, r5, r6, r7⟩ := storeCells_run (P := P) [bv k v] w b off 0 (flat [leaf k m' l hl]) T0 (hS.own _ hup.mem.1) (by simpa using h2) (by intro u hu'; simp at hu'; subst hu'; rfl)
  have hrun : (execOp a.eval ⟨none, .store T x y, ty, pos, after, none⟩).run P w = .ok .skip w' := by
    have hl1 : (bv k v).cells = [bv k v].toArray := rfl
    have hl2 : ([bv k v].toArray).size = 1 := rfl
    simp only [execOp, hA.eval hx, hA.eval hy, Instr.storeAt, Instr.sureAddr, storeVar, hl1, Sem.run_bind, hm, Result.andThen, pure, Sem.run, hl2, ne_eq, not_true_eq_false, if_false, r1]
  refine op1_run rfl hrun ?_
  simp only [Oper.upon, Act.put]
  exact h a w' hA (hS.upd hup r2 r3 r4 r5 (by rw [r6, Nat.add_zero, h1]; rfl) r7)
end
end Go.V
