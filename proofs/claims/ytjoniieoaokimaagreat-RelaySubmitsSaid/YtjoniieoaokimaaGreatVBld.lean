/- Structs, arrays and slices that are built; slices that are cut, and that grow. -/
import Derived.Test.YtjoniieoaokimaaGreatVCls
import Derived.Laws.Externs
set_option linter.unusedVariables false
set_option linter.unusedSimpArgs false
set_option linter.unusedSectionVars false
set_option autoImplicit true
set_option relaxedAutoImplicit true
namespace Go.V
section
variable {P : Program} {ops : Array Oper} {Q : Exit → Act → World → Prop} {K : Act → World → Prop} {n : Nat} {D : List Deferred} {E : Env} {σ : Bs} {M M' N : List Seg} {o : Oper} {rest : List Oper}
variable {ty : TypeId} {pos : String} {after : Array Edge} {x y z : Operand} {S : World → Prop}

/-! ### filling -/
theorem fold_over (off : Nat) : ∀ (vs : List Value) (k : Nat) (l : List Value), off + k + vs.length ≤ l.length →
    (vs.zipIdx k).foldl (fun (cs : Array Value) (p : Value × Nat) => cs.setIfInBounds (off + p.2) p.1) l.toArray = (over l (off + k) vs).toArray
  | [], k, l, _ => by simp [over]
  | v :: vs, k, l, h => by
    simp only [List.length_cons] at h
    simp only [List.zipIdx_cons, List.foldl_cons, List.setIfInBounds_toArray]
    rw [fold_over off vs (k + 1) (l.set (off + k) v) (by simp only [List.length_set]; omega), ← Nat.add_assoc, over_over1 l (off + k) v vs (by omega)]

def fillP (place : Nat → Option (Nat × Nat)) : List Part → List (Nat × List Part) → Option (List Part)
  | zs, [] => some zs
  | zs, (i, qs) :: rest => match place i with
    | none => none
    | some (off, size) => match Nat.beq (total qs) size with
      | false => none
      | true => match putAt zs off size qs [] with
        | none => none
        | some zs' => fillP place zs' rest

inductive ArgP (E : Env) : List (Nat × Operand) → List (Nat × List Part) → Prop
  | nil : ArgP E [] []
  | one {i x v xs ps} (hx : val E x = some v) (h1 : one1 v = true) (h : ArgP E xs ps) : ArgP E ((i, x) :: xs) ((i, [P1 v h1]) :: ps)
  | agg {i x qs xs ps} (hx : val E x = some (vagg qs)) (h : ArgP E xs ps) : ArgP E ((i, x) :: xs) ((i, qs) :: ps)

theorem fill_run {place : Nat → Option (Nat × Nat)} {ρ : Operand → Value} (hρ : ∀ x u, val E x = some u → ρ x = u) {xs ps} (h : ArgP E xs ps) :
    ∀ {zs qs : List Part}, fillP place zs ps = some qs → Instr.fill place (flat zs).toArray (xs.map fun p => (p.1, ρ p.2)) = some (flat qs).toArray := by
  have step : ∀ {i : Nat} {v : Value} {p : List Part} {rest : List (Nat × List Part)} {zs qs : List Part} {restv : List (Nat × Value)}, v.cells = (flat p).toArray →
      (∀ {zs' : List Part}, fillP place zs' rest = some qs → Instr.fill place (flat zs').toArray restv = some (flat qs).toArray) →
      fillP place zs ((i, p) :: rest) = some qs → Instr.fill place (flat zs).toArray ((i, v) :: restv) = some (flat qs).toArray := by
    intro i v p rest zs qs restv hv ih hq
    simp only [fillP] at hq
    cases hp : place i with
    | none => rw [hp] at hq; cases hq
    | some os =>
      obtain ⟨off, size⟩ := os
      rw [hp] at hq
      simp only at hq
      cases hb : Nat.beq (total p) size with
      | false => rw [hb] at hq; cases hq
      | true =>
        rw [hb] at hq
        simp only at hq
        have htot : total p = size := Nat.eq_of_beq_eq_true hb
        cases hput : putAt zs off size p [] with
        | none => rw [hput] at hq; cases hq
        | some zs' =>
          rw [hput] at hq
          obtain ⟨h1, h2⟩ := put_flat hput htot
          have hsz : (flat p).toArray.size = size := by simp [flat_length, htot]
          have hcond : (decide (v.cells.size ≠ size) || decide (off + v.cells.size > (flat zs).toArray.size)) = false := by
            rw [hv, hsz]; simp; omega
          simp only [Instr.fill, hp, hcond, Bool.false_eq_true, if_false]
          have : (v.cells.zipIdx.foldl (fun cs (c, j) => cs.setIfInBounds (off + j) c) (flat zs).toArray) = (flat zs').toArray := by
            rw [hv, h1]
            have := fold_over off (flat p) 0 (flat zs) (by rw [flat_length, htot]; omega)
            simpa using this
          rw [this]
          exact ih hq
  induction h with
  | nil => intro zs qs hq; simp [fillP] at hq; simp [Instr.fill, hq]
  | @one i x v xs ps hx h1 h ih =>
    intro zs qs hq
    simp only [List.map_cons, hρ _ _ hx]
    exact step (IsP.one h1).cells ih hq
  | @agg i x p xs ps hx h ih =>
    intro zs qs hq
    simp only [List.map_cons, hρ _ _ hx]
    exact step (IsP.agg).cells ih hq

theorem y_build {T zv zs xs ps qs} {fs : Array Field} {pl : List (Nat × Nat)} (hT : ∀ w, (underlying T).run P w = .ok (.struct fs) w) (hz : ∀ w, (zeroValue T).run P w = .ok zv w) (hzs : zv.cells = (flat zs).toArray)
    (hpl : ∀ w, (fs.mapM fun (f : Field) => (do pure (f.offset, ← sizeOf f.type) : Sem (Nat × Nat))).run P w = .ok pl.toArray w) (ha : ArgP E xs ps) (hf : fillP (fun (i : Nat) => pl[i]?) zs ps = some qs) :
    Yl P S E (.build T xs.toArray) (vagg qs) := by
  intro _ _ _ _ _ ρ hρ w hS
  have h1 := fill_run hρ ha hf
  have h2 : (fun (i : Nat) => pl.toArray[i]?) = fun (i : Nat) => pl[i]? := by funext i; simp
  simp only [execOp, Instr.build, Sem.run_bind, hz, hT, hzs, hpl, Result.andThen]
  have h4 : Instr.fill (fun (i : Nat) => pl.toArray[i]?) (flat zs).toArray (xs.toArray.map fun p => (p.1, ρ p.2)).toList = some (flat qs).toArray := by rw [h2]; simpa using h1
  simp only [h4, pure, Sem.run, vagg]

/-! ### slices -/
theorem y_len {T e a l c} {tys : Array TypeId} (hT : ∀ w, (underlying T).run P w = .ok (.slice e) w) (hx : val E x = some (.slice a l c)) : Yl P S E (.call ⟨.builtin .len, #[x], #[T]⟩) (vI (l : Int)) := by
  intro _ _ _ _ _ ρ hρ w hS
  simp [execOp, resolve, invoke, builtin, Builtin.len_, hρ _ _ hx, hT, pure, Sem.run, goInt]
theorem y_lenP {T e m a} (hT : ∀ w, (underlying T).run P w = .ok (.pointer e) w) (hT' : ∀ w, (underlying e).run P w = .ok (.array m U') w) (hx : val E x = some a) : Yl P S E (.call ⟨.builtin .len, #[x], #[T]⟩) (vI (m : Int)) := by
  intro _ _ _ _ _ ρ hρ w hS
  simp [execOp, resolve, invoke, builtin, Builtin.len_, hρ _ _ hx, hT, hT', pure, Sem.run, goInt]
theorem y_lenA {T e m a} (hT : ∀ w, (underlying T).run P w = .ok (.array m e) w) (hx : val E x = some a) : Yl P S E (.call ⟨.builtin .len, #[x], #[T]⟩) (vI (m : Int)) := by
  intro _ _ _ _ _ ρ hρ w hS
  simp [execOp, resolve, invoke, builtin, Builtin.len_, hρ _ _ hx, hT, pure, Sem.run, goInt]

theorem y_maxI {T : TypeId} {p q : Int} {k : IntKind} {U : TypeId} (hx : val E x = some (.int k p)) (hy : val E y = some (.int k q)) : Yl P S E (.call ⟨.builtin .max, #[x, y], #[T, U]⟩) (.int k (if p < q then q else p)) := by
  intro _ _ _ _ _ ρ hρ w hS
  simp only [execOp, resolve, invoke, builtin, Builtin.max_, List.map_toArray, List.map_cons, List.map_nil, hρ _ _ hx, hρ _ _ hy, Sem.run_bind, pure, Sem.run, Result.andThen]
  simp [Builtin.max2, pure, Sem.run]
theorem y_minI {T : TypeId} {p q : Int} {k : IntKind} {U : TypeId} (hx : val E x = some (.int k p)) (hy : val E y = some (.int k q)) : Yl P S E (.call ⟨.builtin .min, #[x, y], #[T, U]⟩) (.int k (if q < p then q else p)) := by
  intro _ _ _ _ _ ρ hρ w hS
  simp only [execOp, resolve, invoke, builtin, Builtin.min_, List.map_toArray, List.map_cons, List.map_nil, hρ _ _ hx, hρ _ _ hy, Sem.run_bind, pure, Sem.run, Result.andThen]
  simp [Builtin.min2, pure, Sem.run]

/-- where a cut begins: a cut that leaves no room stays where it was -/
def soff (off l cap sz : Nat) : Nat := if cap = l then off else off + l * sz

theorem bound_run {v : Value} {k : IntKind} {i : Int} {m : Nat} {c : BoundsCode} (hv : v = .int k i) (hb : 0 ≤ i ∧ i ≤ m) (w : World) : (Instr.sliceBound v m c).run P w = .ok i.toNat w := by
  subst hv
  simp [Instr.sliceBound, asIntOf, hb.1, hb.2, pure, Sem.run]
theorem addr_soff {b off l cap sz : Nat} : (if cap = l then (some (⟨b, off, none⟩ : Addr)) else some ((⟨b, off, none⟩ : Addr).add (l * sz))) = some ⟨b, soff off l cap sz, none⟩ := by
  unfold soff
  split
  · rfl
  · simp only [Addr.add]; split <;> simp_all

/-- s[lo:hi] -/
theorem y_slice {T e sz b off len cap lo hi : Nat} {k k' : IntKind} {p q : Int} (hT : ∀ w, (underlying T).run P w = .ok (.slice e) w) (hz : ∀ w, (sizeOf e).run P w = .ok sz w)
    (hx : val E x = some (.slice (some ⟨b, off, none⟩) len cap)) (hy : val E y = some (.int k p)) (hzz : val E z = some (.int k' q)) (hp : p.toNat = lo) (hq : q.toNat = hi) (h : 0 ≤ p ∧ p ≤ q ∧ q ≤ cap) :
    Yl P S E (.slice T x (some y) (some z) none) (.slice (some ⟨b, soff off lo cap sz, none⟩) (hi - lo) (cap - lo)) := by
  intro _ _ _ _ _ ρ hρ w hS
  subst hp; subst hq
  have h1 := bound_run (P := P) (v := ρ z) (c := .sliceAcap) (m := cap) (hρ _ _ hzz) ⟨by omega, h.2.2⟩
  have h2 := bound_run (P := P) (v := ρ y) (c := .sliceB) (m := q.toNat) (hρ _ _ hy) ⟨h.1, by omega⟩
  have hmap : (Option.map (fun (a : Addr) => a.add (p.toNat * sz)) (some ⟨b, off, none⟩)) = some ((⟨b, off, none⟩ : Addr).add (p.toNat * sz)) := rfl
  simp only [execOp, Instr.sliceAt, Instr.slice, Sem.run_bind, hT, hρ _ _ hx, Option.map_some, Option.map_none, Instr.sliceBounds, Result.andThen, pure, Sem.run, if_true, h1, h2, hz, Option.isSome_none, Bool.false_eq_true, if_false, addr_soff]
/-- s[lo:] -/
theorem y_sliceLo {T e sz b off len cap lo : Nat} {k : IntKind} {p : Int} (hT : ∀ w, (underlying T).run P w = .ok (.slice e) w) (hz : ∀ w, (sizeOf e).run P w = .ok sz w)
    (hx : val E x = some (.slice (some ⟨b, off, none⟩) len cap)) (hy : val E y = some (.int k p)) (hp : p.toNat = lo) (h : 0 ≤ p ∧ p ≤ len) :
    Yl P S E (.slice T x (some y) none none) (.slice (some ⟨b, soff off lo cap sz, none⟩) (len - lo) (cap - lo)) := by
  intro _ _ _ _ _ ρ hρ w hS
  subst hp
  have h2 := bound_run (P := P) (v := ρ y) (c := .sliceB) (m := len) (hρ _ _ hy) ⟨h.1, h.2⟩
  simp only [execOp, Instr.sliceAt, Instr.slice, Sem.run_bind, hT, hρ _ _ hx, Option.map_some, Option.map_none, Instr.sliceBounds, Result.andThen, pure, Sem.run, if_true, h2, hz, Option.isSome_none, Bool.false_eq_true, if_false, addr_soff]
/-- s[:hi] -/
theorem y_sliceHi {T e sz b off len cap hi : Nat} {k' : IntKind} {q : Int} (hT : ∀ w, (underlying T).run P w = .ok (.slice e) w) (hz : ∀ w, (sizeOf e).run P w = .ok sz w)
    (hx : val E x = some (.slice (some ⟨b, off, none⟩) len cap)) (hzz : val E z = some (.int k' q)) (hq : q.toNat = hi) (h : 0 ≤ q ∧ q ≤ cap) :
    Yl P S E (.slice T x none (some z) none) (.slice (some ⟨b, off, none⟩) hi cap) := by
  intro _ _ _ _ _ ρ hρ w hS
  subst hq
  have h1 := bound_run (P := P) (v := ρ z) (c := .sliceAcap) (m := cap) (hρ _ _ hzz) ⟨by omega, h.2⟩
  have h3 : soff off 0 cap sz = off := by unfold soff; split <;> simp
  simp only [execOp, Instr.sliceAt, Instr.slice, Sem.run_bind, hT, hρ _ _ hx, Option.map_some, Option.map_none, Instr.sliceBounds, Result.andThen, pure, Sem.run, if_true, h1, hz, Option.isSome_none, Bool.false_eq_true, if_false, addr_soff, h3, Nat.sub_zero]
/-- arr[:], whole -/
theorem y_sliceArr {T e m sz b off : Nat} (hT : ∀ w, (underlying T).run P w = .ok (.array m e) w) (hz : ∀ w, (sizeOf e).run P w = .ok sz w)
    (hx : val E x = some (.pointer (some ⟨b, off, none⟩))) :
    Yl P S E (.slice T x none none none) (.slice (some ⟨b, off, none⟩) m m) := by
  intro _ _ _ _ _ ρ hρ w hS
  have h3 : (if m = 0 then (⟨b, off, none⟩ : Addr) else (⟨b, off, none⟩ : Addr).add (0 * sz)) = ⟨b, off, none⟩ := by split <;> simp [Addr.add]
  simp only [execOp, Instr.sliceAt, Sem.run_bind, hT, hρ _ _ hx, Instr.sureAddr, Option.map_none, Instr.sliceBounds, Result.andThen, pure, Sem.run, hz, h3, Nat.sub_zero]

/-! ### slices that are made -/
theorem o_buildSlice {T e sz len t : Nat} {zv zs xs ps qs} (hT : ∀ w, (underlying T).run P w = .ok (.slice e) w) (hs : ∀ w, (sizeOf e).run P w = .ok sz w) (hz : ∀ w, (zeroValue e).run P w = .ok zv w)
    (hzs : (Array.range (len * sz)).map (zv.cells[· % zv.cells.size]!) = (flat zs).toArray) (hne : Nat.beq (len * sz) 0 = false) (hle : Nat.ble (len * sz) 16777216 = true)
    (ha : ArgP E xs ps) (hf : fillP (fun i => some (i * sz, sz)) zs ps = some qs) (ht : Nat.blt t n = true)
    (h : ∀ b, J n D ((t, .slice (some ⟨b, 0, none⟩) len len) :: E) σ ([(b, obj e qs)] :: M) K) : J n D E σ M (Op1 P ops Q ⟨some t, .buildSlice T len xs.toArray, ty, pos, after, none⟩ K) := by
  intro a w hA hS
  refine op1_run (r := .ok (.value (.slice (some ⟨w.heap.size, 0, none⟩) len len)) (w.alloc (obj e qs))) rfl ?_ ?_
  · have h1 := fill_run (ρ := a.eval) (fun x u hx => hA.eval hx) ha hf
    have h3 : (xs.toArray.map fun p => (p.1, a.eval p.2)).toList = xs.map fun p => (p.1, a.eval p.2) := by simp
    have hne' : ¬ len * sz = 0 := Nat.ne_of_beq_eq_false hne
    have hle' : ¬ len * sz > 2 ^ 24 := by rw [Nat.ble_eq] at hle; omega
    simp only [execOp, Instr.buildSlice, Sem.run_bind, hT, hs, hz, Result.andThen, if_neg hne', if_neg hle', pure, Sem.run, hzs, h3, h1, newRow, newObj, obj]
    rfl
  · exact h _ _ _ (hA.put t _ ht) (hS.alloc _)

/-- a slice that its holder alone may write: nothing, or the head of a block of its own -/
inductive VG where
  | nil
  | blk (b cap : Nat) (spare : List Value)
def VG.val : VG → Nat → Value
  | .nil, _ => .slice none 0 0
  | .blk b cap _, l => .slice (some ⟨b, 0, none⟩) l cap
def VG.seg : VG → TypeId → List Value → Seg
  | .nil, _, _ => []
  | .blk b _ sp, T, cs => [(b, .cells (cs ++ sp).toArray T (0, 0))]
/-- l elements of sz cells each are there -/
def VG.ok (sz : Nat) : VG → Nat → List Value → Prop
  | .nil, l, cs => l = 0 ∧ cs = []
  | .blk _ cap sp, l, cs => cs.length = l * sz ∧ (cs ++ sp).length = cap * sz ∧ l ≤ cap

theorem grow_le (need : Nat) : ∀ (r c : Nat), c ≤ need → Builtin.growBy need r c ≤ 2 * need + 768
  | 0, c, h => by simp [Builtin.growBy]; omega
  | r + 1, c, h => by
    simp only [Builtin.growBy]
    split
    · omega
    · rename_i hc
      by_cases h2 : c + (c + 768) / 4 ≤ need
      · exact grow_le need r _ h2
      · cases r with
        | zero => simp [Builtin.growBy]; omega
        | succ r => simp only [Builtin.growBy]; rw [if_pos (by omega)]; omega
theorem cap_le {need cap : Nat} (h : cap < need) : Builtin.nextslicecap need cap ≤ 2 * need + 768 := by
  unfold Builtin.nextslicecap
  split
  · omega
  · split
    · omega
    · exact grow_le need 4 cap (by omega)


theorem zeroCells_size (zero : Array Value) (k : Nat) : (Builtin.zeroCells zero k).size = k * zero.size := by simp [Builtin.zeroCells]

/-- append, in a world: of a slice of one's own, and of cells that can be read -/
theorem append_run {e sz by_ T : Nat} {zv : Value} {w : World} {g : VG} {l m : Nat} {cs news : List Value} {sv xv : Value} {ei : TypeInfo} {w0 : World} {B0 : List Nat} {R F : List Seg} {t1 e1 : TypeId}
    (hT : ∀ w, (underlying T).run P w = .ok (.slice e) w) (hs : ∀ w, (sizeOf e).run P w = .ok sz w) (hz : ∀ w, (zeroValue e).run P w = .ok zv w) (hzs : zv.cells.size = sz) (hi : ∀ w, (typeInfo e).run P w = .ok ei w) (hby : ei.bytes = by_)
    (ht1 : ∀ w, (underlying t1).run P w = .ok (.slice e1) w)
    (hsv : sv = g.val l) (hok : g.ok sz l cs) (hnews : news.length = m * sz) (hone : ∀ v ∈ news, one1 v = true)
    (hxv : ∀ w, (Builtin.lenOf xv).run P w = .ok m w) (hread : ∀ w', w'.heap = w.heap → (Builtin.firstCells sz m xv).run P w' = .ok news.toArray w')
    (hbig : (2 * (l + m) + 768) * by_ ≤ 281474976710656) (hb0 : by_ ≠ 0)
    (hS : St w0 B0 R (g.seg e cs :: F) w) :
    ∃ g' w', (Builtin.append_ #[T, t1] ty #[sv, xv]).run P w = .ok (VG.val g' (l + m)) w' ∧ g'.ok sz (l + m) (cs ++ news) ∧ St w0 B0 R (g'.seg e (cs ++ news) :: F) w' := by
  subst hsv
  have hnc : ∀ cap, cap < l + m → ¬ Builtin.nextslicecap (l + m) cap * ei.bytes > 2 ^ 48 := fun cap hc => by
    have h1 := cap_le hc
    have h2 : Builtin.nextslicecap (l + m) cap * ei.bytes ≤ (2 * (l + m) + 768) * by_ := by rw [hby]; exact Nat.mul_le_mul_right _ h1
    omega
  -- a new block
  have grow : ∀ (base : Option Addr) (cap : Nat), cap < l + m → (∀ w', w'.heap = w.heap → (Builtin.firstCells sz l (.slice base l cap)).run P w' = .ok cs.toArray w') → cs.length = l * sz → (∃ S', S' = g.seg e cs) →
      ∃ g' w', (Builtin.append_ #[T, t1] ty #[.slice base l cap, xv]).run P w = .ok (VG.val g' (l + m)) w' ∧ g'.ok sz (l + m) (cs ++ news) ∧ St w0 B0 R (g'.seg e (cs ++ news) :: F) w' := by
    intro base cap hc hold hcl _
    obtain ⟨nc, hnc', hle⟩ : ∃ nc, (choose (.appendCap (l + m) cap e)).run P w = .ok nc w.drew ∧ l + m ≤ nc :=
      ⟨_, by simp only [choose, Sem.run, Question.forced, Bool.false_eq_true, if_false]; rfl, by simp only [Question.cut]; omega⟩
    have hask : ∀ w, (askRoom (nc * ei.bytes)).run P w = .ok () w := fun w => by unfold askRoom; split <;> simp [mark, Sem.run, pure]
    let blkc : List Value := cs ++ news ++ (Builtin.zeroCells zv.cells (nc - (l + m))).toList
    refine ⟨.blk w.heap.size nc (Builtin.zeroCells zv.cells (nc - (l + m))).toList, w.drew.alloc (.cells blkc.toArray e (0, 0)), ?_, ?_, ?_⟩
    · have hlt : ¬ l + m ≤ cap := by omega
      have h0 : ¬ ei.bytes = 0 := by rw [hby]; exact hb0
      have hcells : cs.toArray ++ news.toArray ++ Builtin.zeroCells zv.cells (nc - (l + m)) = blkc.toArray := by
        simp [blkc]
      simp only [Builtin.append_, List.getElem?_toArray, List.getElem?_cons_zero, List.getElem?_cons_succ, Sem.run_bind, hT, hs, ht1, Result.andThen, pure, Sem.run]
      simp only [Bool.false_eq_true, if_false, Sem.run, hxv, if_neg hlt, hi, h0, or_self, and_false, if_neg (hnc cap hc), hnc', hask, hold w.drew rfl, Bool.not_false, if_true, hread w.drew rfl, hz, newRow, newObj, hcells, Sem.run_bind, Result.andThen, pure]
      rfl
    · refine ⟨by simp [hcl, hnews, Nat.add_mul], ?_, hle⟩
      have := zeroCells_size zv.cells (nc - (l + m))
      simp only [List.length_append, hcl, hnews, Array.length_toList, this, hzs]
      rw [← Nat.add_mul, ← Nat.add_mul]
      congr 1
      omega
    · have h1 : St w0 B0 R F w.drew := hS.drop1.drew
      have := h1.alloc (.cells blkc.toArray e (0, 0))
      exact this
  cases g with
  | nil =>
    obtain ⟨rfl, rfl⟩ := hok
    by_cases hm : m = 0
    · subst hm
      refine ⟨.nil, w, ?_, ⟨rfl, by simpa using hnews⟩, by have : news = [] := by simpa using hnews
                                                           subst this; simpa [VG.seg] using hS⟩
      simp only [Builtin.append_, VG.val, List.getElem?_toArray, List.getElem?_cons_zero, List.getElem?_cons_succ, Sem.run_bind, hT, hs, ht1, Result.andThen, pure, Sem.run]
      simp only [Bool.false_eq_true, if_false, Sem.run, hxv, Bool.not_false, if_true, hread w rfl, Nat.add_zero, Nat.le_refl, Sem.run_bind, Result.andThen, pure]
    · exact grow none 0 (by omega) (fun w' _ => by simp [Builtin.firstCells, pure, Sem.run]) (by simp) ⟨_, rfl⟩
  | blk b cap sp =>
    obtain ⟨hcl, htot, hlc⟩ := hok
    have hblk : w.heap[b]? = some (.cells (cs ++ sp).toArray e (0, 0)) := hS.own (b, _) (by simp [VG.seg])
    have hold : ∀ w', w'.heap = w.heap → (Builtin.firstCells sz l (.slice (some ⟨b, 0, none⟩) l cap)).run P w' = .ok cs.toArray w' := fun w' hw' => by
      have := run_loadCells (P := P) (w := w') (b := b) (off := 0) (cs := cs) (l := cs ++ sp) (T := e) (fr := (0, 0)) (by rw [hw']; exact hblk) (fun j v hj => by
        have hlt : j < cs.length := by
          rcases Nat.lt_or_ge j cs.length with h | h
          · exact h
          · simp [List.getElem?_eq_none h] at hj
        rw [Nat.zero_add, List.getElem?_append_left hlt]; exact hj)
      simp only [Builtin.firstCells]
      rw [← hcl]
      exact this
    by_cases hfit : l + m ≤ cap
    · have hle2 : (l + m) * sz ≤ cap * sz := Nat.mul_le_mul_right _ hfit
      rw [Nat.add_mul] at hle2
      obtain ⟨w', r1, r2, r3, r4, r5, r6, r7⟩ := storeCells_run (P := P) news w b (l * sz) 0 (cs ++ sp) e hblk (by rw [htot, hnews]; omega) hone
      have hadd : (Addr.add ⟨b, 0, none⟩ (l * sz)) = ⟨b, l * sz, none⟩ := by simp only [Addr.add]; split <;> simp_all
      have hover : over (cs ++ sp) (l * sz + 0) news = cs ++ news ++ sp.drop (m * sz) := by
        simp only [over, Nat.add_zero, hnews]
        rw [List.take_left' hcl, List.drop_append, List.drop_eq_nil_of_le (by rw [hcl]; omega), hcl]
        simp
      refine ⟨.blk b cap (sp.drop (m * sz)), w', ?_, ⟨by simp [hcl, hnews, Nat.add_mul], ?_, hfit⟩, ?_⟩
      · simp only [Builtin.append_, VG.val, List.getElem?_toArray, List.getElem?_cons_zero, List.getElem?_cons_succ, Sem.run_bind, hT, hs, ht1, Result.andThen, pure, Sem.run]
        simp only [Bool.false_eq_true, if_false, Sem.run, hxv, Bool.not_false, if_true, hread w rfl, if_pos hfit, hadd, r1, Sem.run_bind, Result.andThen, pure]
      · rw [List.append_assoc, List.length_append, List.length_append, List.length_drop, hcl, hnews]
        rw [List.length_append, hcl] at htot
        omega
      · have hu : Upd b (.cells (cs ++ sp).toArray e (0, 0)) (.cells ((cs ++ news) ++ sp.drop (m * sz)).toArray e (0, 0)) (VG.seg (.blk b cap sp) e cs :: F) (VG.seg (.blk b cap (sp.drop (m * sz))) e (cs ++ news) :: F) := Upd.one
        exact hS.upd hu r2 r3 r4 r5 (by rw [r6, hover]) r7
    · exact grow (some ⟨b, 0, none⟩) cap (by omega) hold hcl ⟨_, rfl⟩

/-- what a slice value reads as -/
def Reads (P : Program) (S : World → Prop) (sz m : Nat) (v : Value) (cs : List Value) : Prop := (∀ w, (Builtin.lenOf v).run P w = .ok m w) ∧ ∀ w, S w → (Builtin.firstCells sz m v).run P w = .ok cs.toArray w
theorem reads_span {b off m cap sz T0 : Nat} {ps qs : List Part} [hm : InS b (obj T0 ps) N] (hq : spanAt ps off (m * sz) = some qs) : Reads P (Pts N) sz m (.slice (some ⟨b, off, none⟩) m cap) (flat qs) := by
  refine ⟨fun w => rfl, fun w hw => ?_⟩
  obtain ⟨_, _, _, _, h3⟩ := spanAt_eq _ _ _ _ hq
  have := run_loadCells (P := P) (w := w) (b := b) (off := off) (cs := flat qs) (hw _ hm.mem) (fun j v hj => span_get hq j v hj)
  rw [flat_length, h3] at this
  exact this
theorem reads_nil {sz : Nat} : Reads P S sz 0 (.slice none 0 0) [] := ⟨fun _ => rfl, fun _ _ => by simp [Builtin.firstCells, pure, Sem.run]⟩
theorem reads_cells {b off m cap sz T0 : Nat} {l cs : List Value} {fr : Nat × Nat} [hm : InS b (.cells l.toArray T0 fr) N] (hlen : cs.length = m * sz) (hcs : ∀ j v, cs[j]? = some v → l[off + j]? = some v) :
    Reads P (Pts N) sz m (.slice (some ⟨b, off, none⟩) m cap) cs := by
  refine ⟨fun w => rfl, fun w hw => ?_⟩
  have := run_loadCells (P := P) (w := w) (b := b) (off := off) (cs := cs) (hw _ hm.mem) hcs
  rw [hlen] at this
  exact this

theorem o_append {e sz by_ T t : Nat} {zv : Value} {ei : TypeInfo} {t1 e1 : TypeId} {sv xv : Value} {news cs : List Value} {l m : Nat} (g : VG) {F : List Seg}
    (hT : ∀ w, (underlying T).run P w = .ok (.slice e) w) (hs : ∀ w, (sizeOf e).run P w = .ok sz w) (hz : ∀ w, (zeroValue e).run P w = .ok zv w) (hzs : zv.cells.size = sz) (hi : ∀ w, (typeInfo e).run P w = .ok ei w) (hby : ei.bytes = by_)
    (ht1 : ∀ w, (underlying t1).run P w = .ok (.slice e1) w) (hx : val E x = some sv) (hsv : sv = g.val l) (hy : val E y = some xv) (hok : g.ok sz l cs) (hread : Reads P (Pts (σ.R ++ M)) sz m xv news)
    (hnews : news.length = m * sz) (hone : ∀ v ∈ news, one1 v = true) [hF : TakeC (g.seg e cs) M F]
    (hbig : (2 * (l + m) + 768) * by_ ≤ 281474976710656) (hb0 : by_ ≠ 0) (ht : Nat.blt t n = true)
    (h : ∀ g' : VG, g'.ok sz (l + m) (cs ++ news) → J n D ((t, g'.val (l + m)) :: E) σ (g'.seg e (cs ++ news) :: F) K) :
    J n D E σ M (Op1 P ops Q ⟨some t, .call ⟨.builtin .append, #[x, y], #[T, t1]⟩, ty, pos, after, none⟩ K) := by
  intro a w hA hS
  have hS' : St σ.w0 σ.B0 σ.R (g.seg e cs :: F) w := hS.perm hF.take.perm
  have hpts : ∀ w', w'.heap = w.heap → Pts (σ.R ++ M) w' := fun w' hw' p hp => by rw [hw']; exact hS.pts p hp
  obtain ⟨g', w', h1, h2, h3⟩ := append_run (ty := ty) hT hs hz hzs hi hby ht1 hsv hok hnews hone hread.1 (fun w' hw' => hread.2 w' (hpts w' hw')) hbig hb0 hS'
  refine op1_run (r := .ok (.value (g'.val (l + m))) w') rfl ?_ ?_
  · simp only [execOp, resolve, invoke, builtin, List.map_toArray, List.map_cons, List.map_nil, hA.eval hx, hA.eval hy, Sem.run_bind, pure, Sem.run, Result.andThen, h1]
  · exact h g' h2 _ _ (hA.put t _ ht) h3

/-! ### what is kept -/
def rvE : Env → Env → Option Env
  | [], acc => some acc
  | p :: ps, acc => rvE ps (p :: acc)
def kept (E : Env) : List Nat → Env → Option Env
  | [], acc => rvE acc []
  | t :: ts, acc => match look E t with
    | some v => kept E ts ((t, v) :: acc)
    | none => none
/-- a loop: EI what is known of the slots that matter (behind them those of ks, unchanged), MI what of the heap (behind it the blocks of bs, unchanged) -/
theorem c_while {c : Code} {X : Type} (ks : List Nat) (bs : List Nat) {Ek : Env} {Mk F : List Seg} (hk : kept E ks [] = some Ek) [hb : KeepC bs M Mk] (EI : Env → X → Env) (MI : List Seg → X → List Seg) (p : X → Prop) (μ : X → Nat) (x0 : X) (h0 : p x0)
    (hE : sub E (EI Ek x0)) [hM : TakesC (MI Mk x0) M F]
    (round : ∀ x, p x → J n D (EI Ek x) σ (MI Mk x) (c.wp P (Exit.then (fun a w => ∃ y, p y ∧ μ y < μ x ∧ At n D σ (EI Ek y) (MI Mk y) a w) Q))) : J n D E σ M ((Code.loop c).wp P Q) :=
  c_inv (EI Ek) (MI Mk) p μ x0 h0 hE hM.takes round
theorem c_next {X : Type} {EI : X → Env} {MI : X → List Seg} {p : X → Prop} {μ : X → Nat} {x : X} (y : X) {F : List Seg} (hp : p y) (hμ : μ y < μ x) (hE : sub E (EI y)) [hM : TakesC (MI y) M F] :
    J n D E σ M (fun a w => ∃ y, p y ∧ μ y < μ x ∧ At n D σ (EI y) (MI y) a w) := c_again y hp hμ hE hM.takes
theorem c_join {c d : Code} {X : Type} (ks : List Nat) (bs : List Nat) {Ek : Env} {Mk : List Seg} (hk : kept E ks [] = some Ek) [hb : KeepC bs M Mk] (EI : Env → X → Env) (MI : List Seg → X → List Seg) (p : X → Prop)
    (h : J n D E σ M (c.wp P (Exit.then (fun a w => ∃ y, p y ∧ At n D σ (EI Ek y) (MI Mk y) a w) Q)))
    (h' : ∀ y, p y → J n D (EI Ek y) σ (MI Mk y) (d.wp P Q)) : J n D E σ M ((Code.seq c d).wp P Q) := c_meet (EI Ek) (MI Mk) p h h'
theorem c_joined {X : Type} {EI : X → Env} {MI : X → List Seg} {p : X → Prop} (y : X) {F : List Seg} (hp : p y) (hE : sub E (EI y)) [hM : TakesC (MI y) M F] :
    J n D E σ M (fun a w => ∃ y, p y ∧ At n D σ (EI y) (MI y) a w) := c_there y hp hE hM.takes
/-- forgetting -/
theorem c_forget (ks : List Nat) (bs : List Nat) {Ek : Env} {Mk F : List Seg} (hk : kept E ks [] = some Ek) [hb : KeepC bs M Mk] (hE : sub E Ek) [hM : TakesC Mk M F] (h : J n D Ek σ Mk K) : J n D E σ M K := c_cut hE hM.takes h

/-! ### arrays built, words added -/
theorem y_buildA {T e m sz zv zs xs ps qs} (hT : ∀ w, (underlying T).run P w = .ok (.array m e) w) (hs : ∀ w, (sizeOf e).run P w = .ok sz w) (hz : ∀ w, (zeroValue T).run P w = .ok zv w) (hzs : zv.cells = (flat zs).toArray)
    (ha : ArgP E xs ps) (hf : fillP (fun i => some (i * sz, sz)) zs ps = some qs) :
    Yl P S E (.build T xs.toArray) (vagg qs) := by
  intro _ _ _ _ _ ρ hρ w hS
  have h1 := fill_run hρ ha hf
  have h4 : Instr.fill (fun (i : Nat) => some (i * sz, sz)) (flat zs).toArray (xs.toArray.map fun p => (p.1, ρ p.2)).toList = some (flat qs).toArray := by simpa using h1
  simp only [execOp, Instr.build, Sem.run_bind, hz, hT, hs, hzs, Result.andThen]
  simp only [h4, pure, Sem.run, vagg]

theorem cvu8 (X : BitVec 8) : X.toNat < 9223372036854775808 := by have := X.isLt; omega
theorem cvu16 (X : BitVec 16) : X.toNat < 9223372036854775808 := by have := X.isLt; omega
theorem cvu32 (X : BitVec 32) : X.toNat < 9223372036854775808 := by have := X.isLt; omega

theorem y_extern {f : FuncId} {xs : List Operand} {vs : List Value} {tys : Array TypeId} {v : Value} (hxs : vals E xs = some vs) (hf : ∀ w, (callFunc f vs.toArray).run P w = .ok (.value v) w) :
    Yl P S E (.call ⟨.value (.func f), xs.toArray, tys⟩) v := by
  intro dst ty pos after g ρ hρ w hS
  have hargs : ∀ (xs : List Operand) (vs : List Value), vals E xs = some vs → xs.map ρ = vs := by
    intro xs
    induction xs with
    | nil => intro vs h; simp [vals] at h; simp [h]
    | cons x xs ih =>
      intro vs h
      simp only [vals] at h
      cases hx : val E x with
      | none => rw [hx] at h; cases h
      | some u =>
        rw [hx] at h
        cases hxs : vals E xs with
        | none => rw [hxs] at h; cases h
        | some us =>
          rw [hxs] at h
          simp at h
          subst h
          simp [hρ _ _ hx, ih us hxs]
  have h0 : ρ (.func f) = .func (.func f) #[] #[] := hρ _ _ rfl
  simp only [execOp, resolve, h0, Deferred.ofValue, List.map_toArray, hargs xs vs hxs, Sem.run_bind, Result.andThen, pure, Sem.run, invoke]
  simp [hf]
/-- math/bits.Add64, which the model knows -/
theorem add64_run {f : FuncId} (hf : ∀ args w, (callFunc f args).run P w = ((add64Entry args).run P w).andThen fun v w' => .ok (.value v) w') (X Y C : BitVec 64) (hc : C.toNat ≤ 1) (w : World) :
    (callFunc f [bv .u64 X, bv .u64 Y, bv .u64 C].toArray).run P w = .ok (.value (.tuple [bv .u64 (BitVec.ofNat 64 (X.toNat + Y.toNat + C.toNat)), bv .u64 (BitVec.ofNat 64 ((X.toNat + Y.toNat + C.toNat) / 18446744073709551616))].toArray)) w := by
  rw [hf]
  have := run_add64 (P := P) (X.toNat : Int) (Y.toNat : Int) (C.toNat : Int) (by omega) (by omega) (by omega) (by omega) w
  simp only [bv]
  rw [this]
  have h1 := X.isLt
  have h2 := Y.isLt
  have e1 : (((X.toNat : Int) + Y.toNat + C.toNat) % 18446744073709551616) = ((BitVec.ofNat 64 (X.toNat + Y.toNat + C.toNat)).toNat : Int) := by
    rw [BitVec.toNat_ofNat]; omega
  have e2 : (((X.toNat : Int) + Y.toNat + C.toNat) / 18446744073709551616) = ((BitVec.ofNat 64 ((X.toNat + Y.toNat + C.toNat) / 18446744073709551616)).toNat : Int) := by
    rw [BitVec.toNat_ofNat]; omega
  rw [e1, e2]
  rfl
theorem y_add64 {f : FuncId} {a b c : Operand} {tys : Array TypeId} {X Y C : BitVec 64} (hf : ∀ args w, (callFunc f args).run P w = ((add64Entry args).run P w).andThen fun v w' => .ok (.value v) w')
    (ha : val E a = some (bv .u64 X)) (hb : val E b = some (bv .u64 Y)) (hcc : val E c = some (bv .u64 C)) (hc : C.toNat ≤ 1) :
    Yl P S E (.call ⟨.value (.func f), #[a, b, c], tys⟩) (.tuple [bv .u64 (BitVec.ofNat 64 (X.toNat + Y.toNat + C.toNat)), bv .u64 (BitVec.ofNat 64 ((X.toNat + Y.toNat + C.toNat) / 18446744073709551616))].toArray) :=
  y_extern (xs := [a, b, c]) (by simp only [vals, ha, hb, hcc]) (add64_run hf X Y C hc)
theorem carry1 (X Y C : BitVec 64) (hc : C.toNat ≤ 1) : (BitVec.ofNat 64 ((X.toNat + Y.toNat + C.toNat) / 18446744073709551616)).toNat ≤ 1 := by
  have h1 := X.isLt
  have h2 := Y.isLt
  rw [BitVec.toNat_ofNat]; omega

def sub64Entry : Array Value → Sem Value := fun args => do
  let (x, y, b) ← Extern.MathBitsCarry.three "Sub64" args
  pure (Extern.MathBitsCarry.pair ((x + Extern.MathBitsCarry.m64 - y - b) % Extern.MathBitsCarry.m64) (if x < y + b then 1 else 0))
theorem y_sub64 {f : FuncId} {a b c : Operand} {tys : Array TypeId} {X Y C : BitVec 64} (hf : ∀ args w, (callFunc f args).run P w = ((sub64Entry args).run P w).andThen fun v w' => .ok (.value v) w')
    (ha : val E a = some (bv .u64 X)) (hb : val E b = some (bv .u64 Y)) (hcc : val E c = some (bv .u64 C)) (hc : C.toNat ≤ 1) :
    Yl P S E (.call ⟨.value (.func f), #[a, b, c], tys⟩) (.tuple [bv .u64 (BitVec.ofNat 64 (X.toNat + 18446744073709551616 - Y.toNat - C.toNat)), bv .u64 (BitVec.ofNat 64 (if X.toNat < Y.toNat + C.toNat then 1 else 0))].toArray) := by
  refine y_extern (xs := [a, b, c]) (vs := [bv .u64 X, bv .u64 Y, bv .u64 C]) (by simp only [vals, ha, hb, hcc]) (fun w => ?_)
  rw [hf]
  have key : ∀ k : Nat, k ≤ 1 → (sub64Entry #[.int .u64 (X.toNat : Int), .int .u64 (Y.toNat : Int), .int .u64 (k : Int)]).run P w =
      .ok (Extern.MathBitsCarry.pair ((X.toNat + Extern.MathBitsCarry.m64 - Y.toNat - k) % Extern.MathBitsCarry.m64) (if X.toNat < Y.toNat + k then 1 else 0)) w := by
    intro k hk
    have : k = 0 ∨ k = 1 := by omega
    rcases this with rfl | rfl <;> rfl
  have h3 : (sub64Entry [bv .u64 X, bv .u64 Y, bv .u64 C].toArray).run P w = _ := key C.toNat hc
  rw [h3]
  have h1 := X.isLt
  have h2 := Y.isLt
  simp only [Extern.MathBitsCarry.pair, Extern.MathBitsCarry.m64, Result.andThen]
  have e1 : (BitVec.ofNat 64 (X.toNat + 18446744073709551616 - Y.toNat - C.toNat)).toNat = (X.toNat + 2 ^ 64 - Y.toNat - C.toNat) % 2 ^ 64 := by rw [BitVec.toNat_ofNat]
  have e2 : (BitVec.ofNat 64 (if X.toNat < Y.toNat + C.toNat then 1 else 0)).toNat = (if X.toNat < Y.toNat + C.toNat then 1 else 0) := by split <;> rfl
  simp only [bv, e1, e2]
  rfl
theorem borrow1 (c : Prop) [Decidable c] : (BitVec.ofNat 64 (if c then 1 else 0)).toNat ≤ 1 := by split <;> decide

theorem pure_of {f : FuncId} {vs : List Value} {v : Value} (h : ∀ w, Calls P f vs.toArray w fun e w' => e = .returned v ∧ w' = w) : Pure P f vs v := fun w =>
  (h w).mono fun e w' ⟨he, hw⟩ => ⟨v, he, rfl, by subst hw; exact St.init0 (by intro p hp; simp at hp)⟩
theorem Pure.to {f : FuncId} {vs : List Value} {v v' : Value} (h : Pure P f vs v) (he : v = v') : Pure P f vs v' := he ▸ h
end
end Go.V
