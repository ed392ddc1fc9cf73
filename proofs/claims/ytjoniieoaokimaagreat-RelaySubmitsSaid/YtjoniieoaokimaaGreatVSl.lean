/- Slices that are read. -/
import Derived.Test.YtjoniieoaokimaaGreatVIter
import Derived.Test.YtjoniieoaokimaaGreatVNum5
set_option linter.unusedVariables false
set_option linter.unusedSimpArgs false
set_option linter.unusedSectionVars false
set_option autoImplicit true
set_option relaxedAutoImplicit true
namespace Go.V
section
variable {P : Program} {ops : Array Oper} {Q : Exit → Act → World → Prop} {K : Act → World → Prop} {n : Nat} {D : List Deferred} {E : Env} {σ : Bs} {M M' N : List Seg} {o : Oper} {rest : List Oper}
variable {ty : TypeId} {pos : String} {after : Array Edge} {x y z u : Operand} {S : World → Prop}

/-- v is a slice of these cells (elements of one cell each) -/
inductive SlIn (w : World) : Value → List Value → Prop
  | nil : SlIn w (.slice none 0 0) []
  | blk {b off cap : Nat} {l cs : List Value} {T : TypeId} {fr : Nat × Nat} (hc : cs.length ≤ cap) (hb : w.heap[b]? = some (.cells l.toArray T fr)) (hl : ∀ j v, cs[j]? = some v → l[off + j]? = some v) :
    SlIn w (.slice (some ⟨b, off, none⟩) cs.length cap) cs
/-- bytes -/
abbrev By (bs : List (BitVec 8)) : List Value := bs.map (bv .u8)
theorem by_get {bs : List (BitVec 8)} {j : Nat} (h : j < bs.length) : (By bs)[j]? = some (bv .u8 (bs.getD j 0#8)) := by
  simp [List.getElem?_map, List.getElem?_eq_getElem h]
theorem by_one (bs : List (BitVec 8)) : ∀ v ∈ By bs, one1 v = true := fun v hv => by
  obtain ⟨x, _, rfl⟩ := List.mem_map.1 hv; rfl

theorem slIn_own {w0 B0 R w e} {g : VG} {cs : List Value} {F : List Seg} (hok : g.ok 1 cs.length cs) (h : St w0 B0 R (g.seg e cs :: F) w) : SlIn w (g.val cs.length) cs := by
  cases g with
  | nil => obtain ⟨_, rfl⟩ := hok; exact .nil
  | blk b cap sp =>
    refine .blk hok.2.2 (h.own (b, .cells (cs ++ sp).toArray e (0, 0)) (by simp [VG.seg])) fun j v hj => ?_
    have hlt : j < cs.length := by
      rcases Nat.lt_or_ge j cs.length with h | h
      · exact h
      · simp [List.getElem?_eq_none h] at hj
    rw [Nat.zero_add, List.getElem?_append_left hlt]; exact hj

/-- one cell of a block of which cells are told -/
theorem lC {T b o : Nat} {l : List Value} {v : Value} {T0 : TypeId} {fr : Nat × Nat} (hA : ∀ w, (isAgg T).run P w = .ok false w) (o' : Nat) (hx : val E x = some (.pointer (some ⟨b, o, none⟩))) [hm : InS b (.cells l.toArray T0 fr) N] (ho : o = o') (hl : l[o']? = some v) : Yl P (Pts N) E (.load T x) v :=
  y_loadC hA hx (fun w hw => by
    have := hw _ hm.mem
    simp only [World.cell?, this]
    subst ho
    simpa using hl)

/-- what is left of the heap when a function ends -/
theorem St.fin {w0 B0 R N F w} (h : St w0 B0 R M w) [hM : TakesC N M F] : St w0 B0 [] N w := (h.take hM.takes).noR
theorem y_slice3 {T e sz b off len cap lo hi mx : Nat} {k k' k'' : IntKind} {p q r : Int} (hT : ∀ w, (underlying T).run P w = .ok (.slice e) w) (hz : ∀ w, (sizeOf e).run P w = .ok sz w)
    (hx : val E x = some (.slice (some ⟨b, off, none⟩) len cap)) (hy : val E y = some (.int k p)) (hzz : val E z = some (.int k' q)) (hu : val E u = some (.int k'' r)) (hp : p.toNat = lo) (hq : q.toNat = hi) (hr : r.toNat = mx) (h : 0 ≤ p ∧ p ≤ q ∧ q ≤ r ∧ r ≤ cap) :
    Yl P S E (.slice T x (some y) (some z) (some u)) (.slice (some ⟨b, soff off lo mx sz, none⟩) (hi - lo) (mx - lo)) := by
  intro _ _ _ _ _ ρ hρ w hS
  subst hp; subst hq; subst hr
  have h0 := bound_run (P := P) (v := ρ u) (c := .slice3Acap) (m := cap) (hρ _ _ hu) ⟨by omega, h.2.2.2⟩
  have h1 := bound_run (P := P) (v := ρ z) (c := .slice3B) (m := r.toNat) (hρ _ _ hzz) ⟨by omega, by omega⟩
  have h2 := bound_run (P := P) (v := ρ y) (c := .slice3C) (m := q.toNat) (hρ _ _ hy) ⟨h.1, by omega⟩
  simp only [execOp, Instr.sliceAt, Instr.slice, Sem.run_bind, hT, hρ _ _ hx, Option.map_some, Option.map_none, Instr.sliceBounds, Result.andThen, pure, Sem.run, if_true, h0, h1, h2, hz, Option.isSome_some, Bool.false_eq_true, if_false, addr_soff]

theorem o_buildSlice0 {T e sz t : Nat} (hT : ∀ w, (underlying T).run P w = .ok (.slice e) w) (hs : ∀ w, (sizeOf e).run P w = .ok sz w) (ht : Nat.blt t n = true)
    (h : ∀ b, J n D ((t, .slice (some ⟨b, 0, none⟩) 0 0) :: E) σ ([(b, .cells [].toArray e (0, 0))] :: M) K) : J n D E σ M (Op1 P ops Q ⟨some t, .buildSlice T 0 #[], ty, pos, after, none⟩ K) := by
  intro a w hA hS
  refine op1_run (r := .ok (.value (.slice (some ⟨w.heap.size, 0, none⟩) 0 0)) (w.alloc (.cells #[] e (0, 0)))) rfl ?_ ?_
  · have he : ∀ f : Nat → Value, (Array.range 0).map f = #[] := fun f => Array.eq_empty_of_size_eq_zero (by simp)
    simp [execOp, Instr.buildSlice, hT, hs, pure, Sem.run, Instr.fill, newRow, newObj, he]
  · exact h _ _ _ (hA.put t _ ht) (hS.alloc _)
theorem y_index1 {T e m i ps v} {k' : IntKind} (hT : ∀ w, (underlying T).run P w = .ok (.array m e) w) (hA : ∀ w, (isAgg e).run P w = .ok false w) (hs : ∀ w, (sizeOf e).run P w = .ok 1 w)
    (hx : val E x = some (vagg ps)) (hi : val E y = some (.int k' i)) (hb : 0 ≤ i ∧ i < m) (hc : cellAt ps i.toNat = some v) : Yl P S E (.index T x y) v := by
  intro _ _ _ _ _ ρ hρ w hS
  have h1 := part1 (P := P) (T := e) (off := i.toNat * 1) hA (by rw [Nat.mul_one]; exact hc) w
  simp only [execOp, hρ _ _ hx, hρ _ _ hi, Instr.index, asIntOf, hT, hs, Sem.run_bind, Result.andThen, pure, Sem.run, vagg, hb.1, hb.2, and_self, if_true, h1]
theorem st_init1 {w : World} {b c : Nat} {ob oc : Obj} (h1 : w.heap[b]? = some ob) (h2 : w.heap[c]? = some oc) (hne : b ≠ c) : St w (dom [[(b, ob)]]) [[(c, oc)]] [[(b, ob)]] w :=
  St.init (by intro p hp; simp at hp; subst hp; exact h2) (by intro p hp; simp at hp; subst hp; exact h1) (by simp [dom]) (by simp [dom]; exact fun h => hne h.symm)
theorem y_eqlNilSk {a T e l c} {v : Bool} {U : TypeId} (hT : ∀ w, (underlying T).run P w = .ok (.slice e) w) (hx : val E x = some (.slice a l c)) (hy : val E y = some (.slice none 0 0)) (hv : a.isNone = v) : Yl P S E (.binOp .eql T x y U) (.bool v) := hv ▸ y_eqlNilS hT hx hy

theorem y_lenG {T e l sz cs} {g : VG} (hT : ∀ w, (underlying T).run P w = .ok (.slice e) w) (hx : val E x = some (g.val l)) (hok : g.ok sz l cs) : Yl P S E (.call ⟨.builtin .len, #[x], #[T]⟩) (vI (l : Int)) := by
  cases g with
  | nil => obtain ⟨rfl, _⟩ := hok; exact y_len (tys := #[]) hT hx
  | blk b cap sp => exact y_len (tys := #[]) hT hx
/-! ### slices: for contracts -/
theorem slIn_rd {w : World} {v : Value} {cs : List Value} (h : SlIn w v cs) : ∃ Rd a c, v = .slice a cs.length c ∧ Pts Rd w ∧ ∀ w', Pts Rd w' → SlIn w' (.slice a cs.length c) cs := by
  cases h with
  | nil => exact ⟨[], none, 0, rfl, by intro p hp; simp at hp, fun _ _ => .nil⟩
  | @blk b off cap l cs T fr hc hb hl =>
    exact ⟨[[(b, .cells l.toArray T fr)]], some ⟨b, off, none⟩, cap, rfl, by intro p hp; simp at hp; subst hp; exact hb, fun w' hw' => .blk (T := T) (fr := fr) hc (hw' (b, .cells l.toArray T fr) (by simp)) hl⟩

/-- a call that reads, and leaves a value -/
def PureS (P : Program) (S : World → Prop) (f : FuncId) (vs : List Value) (v : Value) : Prop := ∀ w, S w → Calls P f vs.toArray w (Ret fun u w' => u = v ∧ Ext w w')
theorem PureS.to {f : FuncId} {vs : List Value} {v v' : Value} (h : PureS P S f vs v) (he : v = v') : PureS P S f vs v' := he ▸ h
theorem o_pureS {f : FuncId} {xs : List Operand} {vs : List Value} {tys : Array TypeId} {t : Nat} {v : Value}
    (hf : ∀ args w, (callFunc f args).run P w = .ok (.enter f args) w) (hxs : vals E xs = some vs) (hc : PureS P (Pts (σ.R ++ M)) f vs v) (ht : Nat.blt t n = true)
    (h : J n D ((t, v) :: E) σ M K) :
    J n D E σ M (Op1 P ops Q ⟨some t, .call ⟨.value (.func f), xs.toArray, tys⟩, ty, pos, after, none⟩ K) := by
  refine o_call (v0 := .func (.func f) #[] #[]) (v0c := .func f) rfl rfl hf hxs ht (R := fun w u w' => u = v ∧ Ext w w') ?_ ?_
  · intro w hS; exact hc w hS.pts
  · rintro u w hS w' ⟨rfl, hS'⟩ a' hA'
    exact h a' w' hA' (hS'.st hS)
/-- a call that leaves a value and new blocks -/
theorem o_newL {f : FuncId} {xs : List Operand} {vs : List Value} {tys : Array TypeId} {t : Nat} {X : Type} {v : X → Value} {L' : X → List Seg} {p : X → Prop}
    (hf : ∀ args w, (callFunc f args).run P w = .ok (.enter f args) w) (hxs : vals E xs = some vs) (ht : Nat.blt t n = true)
    (hc : ∀ w, Pts (σ.R ++ M) w → Quiet P f vs (fun u L => ∃ x, p x ∧ u = v x ∧ L = L' x) w)
    (h : ∀ x, p x → J n D ((t, v x) :: E) σ (L' x ++ M) K) :
    J n D E σ M (Op1 P ops Q ⟨some t, .call ⟨.value (.func f), xs.toArray, tys⟩, ty, pos, after, none⟩ K) :=
  o_quiet hf hxs ht hc (fun u L ⟨x, hp, hu, hL⟩ => by subst hu; subst hL; exact h x hp)
theorem o_new1 {f : FuncId} {xs : List Operand} {vs : List Value} {tys : Array TypeId} {t : Nat} {X : Type} {v : X → Value} {A : X → Seg} {p : X → Prop}
    (hf : ∀ args w, (callFunc f args).run P w = .ok (.enter f args) w) (hxs : vals E xs = some vs) (ht : Nat.blt t n = true)
    (hc : ∀ w, Pts (σ.R ++ M) w → Quiet P f vs (fun u L => ∃ x, p x ∧ u = v x ∧ L = [A x]) w)
    (h : ∀ x, p x → J n D ((t, v x) :: E) σ (A x :: M) K) :
    J n D E σ M (Op1 P ops Q ⟨some t, .call ⟨.value (.func f), xs.toArray, tys⟩, ty, pos, after, none⟩ K) := o_newL (L' := fun x => [A x]) hf hxs ht hc h
theorem o_new2 {f : FuncId} {xs : List Operand} {vs : List Value} {tys : Array TypeId} {t : Nat} {X : Type} {v : X → Value} {A B : X → Seg} {p : X → Prop}
    (hf : ∀ args w, (callFunc f args).run P w = .ok (.enter f args) w) (hxs : vals E xs = some vs) (ht : Nat.blt t n = true)
    (hc : ∀ w, Pts (σ.R ++ M) w → Quiet P f vs (fun u L => ∃ x, p x ∧ u = v x ∧ L = [A x, B x]) w)
    (h : ∀ x, p x → J n D ((t, v x) :: E) σ (A x :: B x :: M) K) :
    J n D E σ M (Op1 P ops Q ⟨some t, .call ⟨.value (.func f), xs.toArray, tys⟩, ty, pos, after, none⟩ K) := o_newL (L' := fun x => [A x, B x]) hf hxs ht hc h
/-- a call that turns one owned segment -/
theorem o_callS {f : FuncId} {xs : List Operand} {vs : List Value} {tys : Array TypeId} {t : Nat} {T T' : Seg} {v : Value} {F : List Seg}
    (hf : ∀ args w, (callFunc f args).run P w = .ok (.enter f args) w) (hxs : vals E xs = some vs) (ht : Nat.blt t n = true) [hT : TakeC T M F]
    (hc : ∀ w, Pts (σ.R ++ M) w → Calls P f vs.toArray w (Ret fun u w' => u = v ∧ St w (T.map Prod.fst) [] [T'] w'))
    (h : J n D ((t, v) :: E) σ (T' :: F) K) :
    J n D E σ M (Op1 P ops Q ⟨some t, .call ⟨.value (.func f), xs.toArray, tys⟩, ty, pos, after, none⟩ K) := by
  refine o_call (v0 := .func (.func f) #[] #[]) (v0c := .func f) rfl rfl hf hxs ht (R := fun w u w' => u = v ∧ St w (T.map Prod.fst) [] [T'] w') ?_ ?_
  · intro w hS; exact hc w hS.pts
  · rintro u w hS w' ⟨rfl, hS'⟩ a' hA'
    exact h a' w' hA' (hS.call (L := [T]) hT.take.perm (by simpa [dom] using hS'))

/-- a slice of one's own, new: these cells -/
def NewSl (T : TypeId) (cs : List Value) (u : Value) (L' : List Seg) : Prop := ∃ g : VG, u = g.val cs.length ∧ g.ok 1 cs.length cs ∧ L' = [g.seg T cs]
theorem o_newsl {f : FuncId} {xs : List Operand} {vs : List Value} {tys : Array TypeId} {t : Nat} {T : TypeId} {cs : List Value}
    (hf : ∀ args w, (callFunc f args).run P w = .ok (.enter f args) w) (hxs : vals E xs = some vs) (ht : Nat.blt t n = true)
    (hc : ∀ w, Pts (σ.R ++ M) w → Quiet P f vs (NewSl T cs) w)
    (h : ∀ g : VG, g.ok 1 cs.length cs → J n D ((t, g.val cs.length) :: E) σ (g.seg T cs :: M) K) :
    J n D E σ M (Op1 P ops Q ⟨some t, .call ⟨.value (.func f), xs.toArray, tys⟩, ty, pos, after, none⟩ K) :=
  o_quiet hf hxs ht hc (fun u L ⟨g, hu, hok, hL⟩ => by subst hu; subst hL; exact h g hok)

theorem by_len (bs : List (BitVec 8)) : (By bs).length = bs.length := by simp
/-- a byte more -/
theorem o_app1 {T t : Nat} {zv : Value} {ei : TypeInfo} {e t1 e1 : TypeId} {sv : Value} {bs : List (BitVec 8)} {x8 : BitVec 8} {b off cap T0 l : Nat} {ps : List Part} (g : VG) {F : List Seg}
    (hT : ∀ w, (underlying T).run P w = .ok (.slice e) w) (hs : ∀ w, (sizeOf e).run P w = .ok 1 w) (hz : ∀ w, (zeroValue e).run P w = .ok zv w) (hzs : zv.cells.size = 1) (hi : ∀ w, (typeInfo e).run P w = .ok ei w) (hby : ei.bytes = 1)
    (ht1 : ∀ w, (underlying t1).run P w = .ok (.slice e1) w) (hx : val E x = some sv) (hl : bs.length = l) (hsv : sv = g.val l) (hy : val E y = some (.slice (some ⟨b, off, none⟩) 1 cap)) (hok : g.ok 1 bs.length (By bs))
    [hm : InS b (obj T0 ps) (σ.R ++ M)] (hq : spanAt ps off 1 = some [P1 (bv .u8 x8) rfl]) [hF : TakeC (g.seg e (By bs)) M F]
    (hbig : bs.length ≤ 1099511627776) (ht : Nat.blt t n = true)
    (h : ∀ g' : VG, g'.ok 1 (bs ++ [x8]).length (By (bs ++ [x8])) → J n D ((t, g'.val (bs ++ [x8]).length) :: E) σ (g'.seg e (By (bs ++ [x8])) :: F) K) :
    J n D E σ M (Op1 P ops Q ⟨some t, .call ⟨.builtin .append, #[x, y], #[T, t1]⟩, ty, pos, after, none⟩ K) := by
  subst hl
  refine o_append (m := 1) (news := [bv .u8 x8]) (cs := By bs) (l := bs.length) (by_ := 1) g hT hs hz hzs hi hby ht1 hx hsv hy hok (reads_span (N := σ.R ++ M) (ps := ps) (T0 := T0) (qs := [P1 (bv .u8 x8) rfl]) (by simpa using hq)) rfl (by intro v hv; simp at hv; subst hv; rfl) (by omega) (by decide) ht (fun g' hg' => ?_)
  have he : By bs ++ [bv .u8 x8] = By (bs ++ [x8]) := by simp
  have hl : bs.length + 1 = (bs ++ [x8]).length := by simp
  rw [he, hl] at hg'
  rw [he, hl]
  exact h g' hg'
theorem slIn_reads {m : Nat} {v : Value} {cs : List Value} (hm : cs.length = m) (h : ∀ w, S w → SlIn w v cs) (w0 : World) (hw0 : S w0) : Reads P S 1 m v cs := by
  subst hm
  refine ⟨fun w => ?_, fun w hw => ?_⟩
  · cases h w0 hw0 <;> rfl
  · cases h w hw with
    | nil => simp [Builtin.firstCells, pure, Sem.run]
    | @blk b off cap l cs T fr hc hb hl =>
      have := run_loadCells (P := P) (w := w) (b := b) (off := off) (cs := cs) hb hl
      simp only [Builtin.firstCells, Nat.mul_one]
      exact this
/-- a list, spelled otherwise -/
theorem j_vgL {L L' : List (BitVec 8)} {T : TypeId} {F : List Seg} (t : Nat) (g : VG) (hx : look E t = some (g.val L.length)) [hT : TakeC (g.seg T (By L)) M F] (he : L = L')
    (h : J n D ((t, g.val L'.length) :: E) σ (g.seg T (By L') :: F) K) : J n D E σ M K := by
  subst he
  refine j_re t hx rfl fun a w hA hS => h a w hA (hS.perm hT.take.perm)
/-- .. and no nil slice -/
theorem j_vgB {L L' : List (BitVec 8)} {T : TypeId} {F : List Seg} {m : Nat} (t : Nat) (g : VG) (hx : look E t = some (g.val L.length)) [hT : TakeC (g.seg T (By L)) M F] (he : L = L') (hok : g.ok 1 L.length (By L)) (hm : L'.length = m) (h0 : m ≠ 0)
    (h : ∀ (b cap : Nat) (sp : List Value), m ≤ cap → J n D ((t, .slice (some ⟨b, 0, none⟩) m cap) :: E) σ ([(b, .cells (By L' ++ sp).toArray T (0, 0))] :: F) K) : J n D E σ M K := by
  subst he
  subst hm
  cases g with
  | nil => exact absurd hok.1 h0
  | blk b cap sp => exact j_re t hx rfl fun a w hA hS => h b cap sp hok.2.2 a w hA (hS.perm hT.take.perm)

theorem slIn_part {w : World} {b off m : Nat} {T : TypeId} {ps : List Part} {l : List (BitVec 8)} {h : l.length = m} (hb : w.heap[b]? = some (obj T ps)) (hs : spanAt ps off m = some [leaf .u8 m l h]) :
    SlIn w (.slice (some ⟨b, off, none⟩) m m) (By l) := by
  have hm : (By l).length = m := by simp [h]
  have := SlIn.blk (w := w) (b := b) (off := off) (cap := m) (l := flat ps) (cs := By l) (T := T) (fr := (0, 0)) (by rw [hm]; exact Nat.le_refl _) hb (fun j v hj => span_get hs j v (by simpa [flat, leaf] using hj))
  rwa [hm] at this
theorem vg_one (g : VG) (l : Nat) : one1 (g.val l) = true := by cases g <;> rfl

/-- what a callee may lean on: it owns L, and may read the rest -/
theorem St.give {w0 : World} {B0 : List Nat} {R L F : List Seg} {w : World} (h : St w0 B0 R M w) (ht : Takes L M F) : St w (dom L) (R ++ F) L w := by
  have hp := h.perm ht.perm
  have hn := hp.nodup
  rw [dom_append, List.nodup_append] at hn
  refine ⟨rfl, rfl, rfl, Nat.le_refl _, fun _ _ _ => rfl, hn.1, fun _ hb => .inl hb, ?_, ?_, (h.take ht).own⟩
  · intro p hpm
    rw [List.flatten_append, List.mem_append] at hpm
    rcases hpm with hpm | hpm
    · exact h.rdw p hpm
    · exact hp.own p (by rw [List.flatten_append]; exact List.mem_append.2 (.inr hpm))
  · intro b hb hm
    rw [dom_append, List.mem_append] at hb
    rcases hb with hb | hb
    · obtain ⟨p, hp', rfl⟩ := List.mem_map.1 hb
      have h1 := lt_of_get (h.rd p hp')
      rcases hp.fresh p.1 (by rw [dom_append]; exact List.mem_append.2 (.inl hm)) with h2 | h2
      · exact h.rdom _ hb h2
      · omega
    · exact hn.2.2 b hm b hb rfl

theorem o_own {f : FuncId} {xs : List Operand} {vs : List Value} {tys : Array TypeId} {t : Nat} (L : List Seg) {F : List Seg} {X : Type} {v : X → Value} {L' : X → List Seg} {p : X → Prop}
    (hf : ∀ args w, (callFunc f args).run P w = .ok (.enter f args) w) (hxs : vals E xs = some vs) (ht : Nat.blt t n = true) [hL : TakesC L M F]
    (hc : ∀ w, St w (dom L) (σ.R ++ F) L w → Calls P f vs.toArray w (Ret fun u w' => ∃ x, p x ∧ u = v x ∧ St w (dom L) [] (L' x) w'))
    (h : ∀ x, p x → J n D ((t, v x) :: E) σ (L' x ++ F) K) :
    J n D E σ M (Op1 P ops Q ⟨some t, .call ⟨.value (.func f), xs.toArray, tys⟩, ty, pos, after, none⟩ K) := by
  refine o_call (v0 := .func (.func f) #[] #[]) (v0c := .func f) rfl rfl hf hxs ht (R := fun w u w' => ∃ x, p x ∧ u = v x ∧ St w (dom L) [] (L' x) w') ?_ ?_
  · intro w hS; exact hc w (hS.give hL.takes)
  · rintro u w hS w' ⟨x, hp, rfl, hS'⟩ a' hA'
    exact h x hp a' w' hA' (hS.call hL.takes.perm hS')
theorem o_own1 {f : FuncId} {xs : List Operand} {vs : List Value} {tys : Array TypeId} {t : Nat} (L : List Seg) {F : List Seg} {X : Type} {v : X → Value} {A : X → Seg} {p : X → Prop}
    (hf : ∀ args w, (callFunc f args).run P w = .ok (.enter f args) w) (hxs : vals E xs = some vs) (ht : Nat.blt t n = true) [hL : TakesC L M F]
    (hc : ∀ w, St w (dom L) (σ.R ++ F) L w → Calls P f vs.toArray w (Ret fun u w' => ∃ x, p x ∧ u = v x ∧ St w (dom L) [] [A x] w'))
    (h : ∀ x, p x → J n D ((t, v x) :: E) σ (A x :: F) K) :
    J n D E σ M (Op1 P ops Q ⟨some t, .call ⟨.value (.func f), xs.toArray, tys⟩, ty, pos, after, none⟩ K) := o_own L (L' := fun x => [A x]) hf hxs ht hc h
theorem o_own2 {f : FuncId} {xs : List Operand} {vs : List Value} {tys : Array TypeId} {t : Nat} (L : List Seg) {F : List Seg} {X : Type} {v : X → Value} {A B : X → Seg} {p : X → Prop}
    (hf : ∀ args w, (callFunc f args).run P w = .ok (.enter f args) w) (hxs : vals E xs = some vs) (ht : Nat.blt t n = true) [hL : TakesC L M F]
    (hc : ∀ w, St w (dom L) (σ.R ++ F) L w → Calls P f vs.toArray w (Ret fun u w' => ∃ x, p x ∧ u = v x ∧ St w (dom L) [] [A x, B x] w'))
    (h : ∀ x, p x → J n D ((t, v x) :: E) σ (A x :: B x :: F) K) :
    J n D E σ M (Op1 P ops Q ⟨some t, .call ⟨.value (.func f), xs.toArray, tys⟩, ty, pos, after, none⟩ K) := o_own L (L' := fun x => [A x, B x]) hf hxs ht hc h

/-- bytes more -/
theorem o_appN {T t : Nat} {zv : Value} {ei : TypeInfo} {e t1 e1 : TypeId} {sv xv : Value} {bs ns : List (BitVec 8)} {l : Nat} (g : VG) {F : List Seg}
    (hT : ∀ w, (underlying T).run P w = .ok (.slice e) w) (hs : ∀ w, (sizeOf e).run P w = .ok 1 w) (hz : ∀ w, (zeroValue e).run P w = .ok zv w) (hzs : zv.cells.size = 1) (hi : ∀ w, (typeInfo e).run P w = .ok ei w) (hby : ei.bytes = 1)
    (ht1 : ∀ w, (underlying t1).run P w = .ok (.slice e1) w) (hx : val E x = some sv) (hl : bs.length = l) (hsv : sv = g.val l) (hy : val E y = some xv) (hok : g.ok 1 bs.length (By bs))
    (hv : ∀ w, Pts (σ.R ++ M) w → SlIn w xv (By ns)) [hF : TakeC (g.seg e (By bs)) M F]
    (hbig : bs.length + ns.length ≤ 1099511627776) (ht : Nat.blt t n = true)
    (h : ∀ g' : VG, g'.ok 1 (bs ++ ns).length (By (bs ++ ns)) → J n D ((t, g'.val (bs ++ ns).length) :: E) σ (g'.seg e (By (bs ++ ns)) :: F) K) :
    J n D E σ M (Op1 P ops Q ⟨some t, .call ⟨.builtin .append, #[x, y], #[T, t1]⟩, ty, pos, after, none⟩ K) := by
  subst hl
  intro a w hA hS
  refine o_append (m := ns.length) (news := By ns) (cs := By bs) (l := bs.length) (by_ := 1) g hT hs hz hzs hi hby ht1 hx hsv hy hok (slIn_reads (by simp) hv w hS.pts) (by simp) (by_one ns) (by omega) (by decide) ht (fun g' hg' => ?_) a w hA hS
  have he : By bs ++ By ns = By (bs ++ ns) := by simp
  have hl : bs.length + ns.length = (bs ++ ns).length := by simp
  rw [he, hl] at hg'
  rw [he, hl]
  exact h g' hg'
theorem vg_reads {w : World} {g : VG} {bs : List (BitVec 8)} {e : TypeId} (hok : g.ok 1 bs.length (By bs)) (h : ∀ p ∈ g.seg e (By bs), w.heap[p.1]? = some p.2) : SlIn w (g.val bs.length) (By bs) := by
  cases g with
  | nil =>
    obtain ⟨h1, h2⟩ := hok
    have : bs = [] := List.eq_nil_of_length_eq_zero h1
    subst this
    exact .nil
  | blk b cap sp =>
    have hc : (By bs).length ≤ cap := by rw [by_len]; exact hok.2.2
    have := SlIn.blk (w := w) (b := b) (off := 0) (cap := cap) (l := By bs ++ sp) (cs := By bs) (T := e) (fr := (0, 0)) hc (h (b, .cells (By bs ++ sp).toArray e (0, 0)) (by simp [VG.seg])) (fun j v hj => by
      have hlt : j < (By bs).length := by
        rcases Nat.lt_or_ge j (By bs).length with h | h
        · exact h
        · simp [List.getElem?_eq_none h] at hj
      rw [Nat.zero_add, List.getElem?_append_left hlt]; exact hj)
    rw [by_len] at this
    exact this
/-- what a callee reads is read -/
theorem hv_left {R N : List Seg} {v : Value} {cs : List Value} (h : ∀ w, Pts R w → SlIn w v cs) : ∀ w, Pts (R ++ N) w → SlIn w v cs := fun w hw => h w (fun p hp => hw p (by rw [List.flatten_append]; exact List.mem_append.2 (.inl hp)))

theorem slIn_some {w : World} {a : Option Addr} {m c : Nat} {cs : List Value} (h : SlIn w (.slice a m c) cs) (hne : cs ≠ []) : ∃ b off, a = some ⟨b, off, none⟩ ∧ m = cs.length ∧ cs.length ≤ c := by
  generalize hv : Value.slice a m c = v at h
  cases h with
  | nil => exact absurd rfl hne
  | blk hc hb hl => cases hv; exact ⟨_, _, rfl, rfl, hc⟩
theorem slIn_blk {w : World} {b off m c : Nat} {cs : List Value} (h : SlIn w (.slice (some ⟨b, off, none⟩) m c) cs) : m = cs.length ∧ cs.length ≤ c ∧ ∃ (l : List Value) (T : TypeId) (fr : Nat × Nat), w.heap[b]? = some (.cells l.toArray T fr) ∧ ∀ j v, cs[j]? = some v → l[off + j]? = some v := by
  generalize hv : Value.slice (some ⟨b, off, none⟩) m c = v at h
  cases h with
  | nil => cases hv
  | blk hc hb hl => cases hv; exact ⟨rfl, hc, _, _, _, hb, hl⟩
theorem slIn_take {w : World} {b off m c : Nat} {bs : List (BitVec 8)} (n : Nat) (h : SlIn w (.slice (some ⟨b, off, none⟩) m c) (By bs)) (hn : n ≤ bs.length) : SlIn w (.slice (some ⟨b, off, none⟩) n c) (By (bs.take n)) := by
  obtain ⟨_, h2, l, T, fr, h3, h4⟩ := slIn_blk h
  rw [by_len] at h2
  have hl : (By (bs.take n)).length = n := by simp [Nat.min_eq_left hn]
  have := SlIn.blk (w := w) (b := b) (off := off) (cap := c) (l := l) (cs := By (bs.take n)) (T := T) (fr := fr) (by rw [hl]; omega) h3 (fun j v hj => by
    refine h4 j v ?_
    rw [By, List.map_take] at hj
    rw [List.getElem?_take] at hj
    split at hj
    · exact hj
    · cases hj)
  rwa [hl] at this
theorem slIn_drop {w : World} {b off m c : Nat} {bs : List (BitVec 8)} (n : Nat) (h : SlIn w (.slice (some ⟨b, off, none⟩) m c) (By bs)) (hn : n ≤ bs.length) : SlIn w (.slice (some ⟨b, soff off n c 1, none⟩) (bs.length - n) (c - n)) (By (bs.drop n)) := by
  obtain ⟨_, h2, l, T, fr, h3, h4⟩ := slIn_blk h
  rw [by_len] at h2
  have hl : (By (bs.drop n)).length = bs.length - n := by simp
  have := SlIn.blk (w := w) (b := b) (off := soff off n c 1) (cap := c - n) (l := l) (cs := By (bs.drop n)) (T := T) (fr := fr) (by rw [hl]; omega) h3 (fun j v hj => by
    rw [By, List.map_drop, List.getElem?_drop] at hj
    have hlt : n + j < bs.length := by
      rcases Nat.lt_or_ge (n + j) bs.length with h | h
      · exact h
      · rw [List.getElem?_eq_none (by simpa using h)] at hj; cases hj
    unfold soff
    rw [if_neg (by omega), Nat.mul_one, Nat.add_assoc]
    exact h4 _ _ hj)
  rwa [hl] at this

/-- copy(arr[:], bytes) -/
theorem o_copy {T e t m b i : Nat} {l ns : List (BitVec 8)} {hl : l.length = m} {T0 t1 : TypeId} {v : Value} (hT : ∀ w, (underlying T).run P w = .ok (.slice e) w) (hs : ∀ w, (sizeOf e).run P w = .ok 1 w)
    (hx : val E x = some (.slice (some ⟨b, 0, none⟩) m m)) (hy : val E y = some v) (hv : ∀ w, Pts (σ.R ++ M) w → SlIn w v (By ns)) (hn : ns.length ≤ m)
    [hu : Pos b (obj T0 [leaf .u8 m l hl]) M i] (hst : setSeg M i [(b, obj T0 [leaf .u8 m (ns ++ l.drop ns.length) (by rw [List.length_append, List.length_drop, hl]; omega)])] [] = some M') (ht : Nat.blt t n = true)
    (h : J n D ((t, vI (ns.length : Int)) :: E) σ M' K) :
    J n D E σ M (Op1 P ops Q ⟨some t, .call ⟨.builtin .copy, #[x, y], #[T, t1]⟩, ty, pos, after, none⟩ K) := by
  have hup := pos_upd hu hst
  intro a w hA hS
  have hr := slIn_reads (P := P) (m := ns.length) (by simp) hv w hS.pts
  obtain ⟨w', r1, r2, r3, r4, r5, r6, r7⟩ := storeCells_run (P := P) (By ns) w b 0 0 (flat [leaf .u8 m l hl]) T0 (hS.own _ hup.mem.1) (by simp [flat, leaf, hl]; omega) (by_one ns)
  have hov : over (flat [leaf .u8 m l hl]) (0 + 0) (By ns) = flat [leaf .u8 m (ns ++ l.drop ns.length) (by rw [List.length_append, List.length_drop, hl]; omega)] := by
    simp [over, flat, leaf, List.map_drop]
  have hmin : Nat.min ns.length m = ns.length := Nat.min_eq_left hn
  refine op1_run (r := .ok (.value (vI (ns.length : Int))) w') rfl ?_ ?_
  · simp only [execOp, resolve, invoke, builtin, Builtin.copy_, List.map_toArray, List.map_cons, List.map_nil, hA.eval hx, hA.eval hy, Sem.run_bind, pure, Sem.run, Result.andThen, List.getElem?_toArray, List.getElem?_cons_zero, List.getElem?_cons_succ, hT, hs, hr.1, hmin, hr.2 w hS.pts, r1]
    rfl
  · exact h _ _ (hA.put t _ ht) (hS.upd hup r2 r3 r4 r5 (by rw [r6, hov]; rfl) r7)

theorem St.lessR {w0 : World} {B0 : List Nat} {R R' : List Seg} {w : World} (h : St w0 B0 R M w) (hs : ∀ p ∈ R'.flatten, p ∈ R.flatten) : St w0 B0 R' M w :=
  ⟨h.os, h.tape, h.output, h.size, h.keep, h.nodup, h.fresh, fun p hp => h.rd p (hs p hp), fun b hb => by
    obtain ⟨p, hp, rfl⟩ := List.mem_map.1 hb
    exact h.rdom _ (List.mem_map.2 ⟨p, hs p hp, rfl⟩), h.own⟩
/-- a part of what is to be read -/
theorem sub_right {R N F : List Seg} [h : SubM N F] : ∀ p ∈ N.flatten, p ∈ (R ++ F).flatten := fun p hp => by
  rw [List.flatten_append, List.mem_append]; exact .inr (h.sub p hp)

/-- nothing is always there -/
theorem j_nilseg {T : TypeId} {cs : List Value} (h : J n D E σ (VG.nil.seg T cs :: M) K) : J n D E σ M K := fun a w hA hS => h a w hA (hS.perm (by simp [VG.seg]))

theorem y_max3 {T T' T'' : TypeId} {p q r : Int} {k : IntKind} (hx : val E x = some (.int k p)) (hy : val E y = some (.int k q)) (hz : val E z = some (.int k r)) :
    Yl P S E (.call ⟨.builtin .max, #[x, y, z], #[T, T', T'']⟩) (.int k (max (max p q) r)) := by
  intro _ _ _ _ _ ρ hρ w hS
  have h1 : (if p < q then q else p) = max p q := by omega
  have h2 : (if max p q < r then r else max p q) = max (max p q) r := by omega
  simp only [execOp, resolve, invoke, builtin, Builtin.max_, List.map_toArray, List.map_cons, List.map_nil, hρ _ _ hx, hρ _ _ hy, hρ _ _ hz, Sem.run_bind, pure, Sem.run, Result.andThen]
  simp [Builtin.max2, pure, Sem.run, h1, h2]

/-! ### rows of words that can be written -/
abbrev Wd (ws : List (BitVec 32)) : List Value := ws.map (bv .u32)
theorem wd_len (ws : List (BitVec 32)) : (Wd ws).length = ws.length := by simp
theorem wd_one (ws : List (BitVec 32)) : ∀ v ∈ Wd ws, one1 v = true := fun v hv => by
  obtain ⟨x, _, rfl⟩ := List.mem_map.1 hv; rfl
theorem wd_get {ws : List (BitVec 32)} {sp : List Value} {j : Nat} (h : j < ws.length) : (Wd ws ++ sp)[j]? = some (bv .u32 (ws.getD j 0#32)) := by
  rw [List.getElem?_append_left (by simpa using h)]
  simp [List.getElem?_map, List.getElem?_eq_getElem h]
theorem o_storeW {T T0 b off i : Nat} {l : List (BitVec 32)} {sp : List Value} {v : BitVec 32} (hm : ∀ w, (sizeOf T).run P w = .ok 1 w) (j : Nat) (hx : val E x = some (.pointer (some ⟨b, off, none⟩))) (hy : val E y = some (bv .u32 v))
    [hu : Pos b (.cells (Wd l ++ sp).toArray T0 (0, 0)) M i] (ho : off = j) (hj : j < l.length) (hs : setSeg M i [(b, .cells (Wd (l.set j v) ++ sp).toArray T0 (0, 0))] [] = some M')
    (h : J n D E σ M' K) : J n D E σ M (Op1 P ops Q ⟨none, .store T x y, ty, pos, after, none⟩ K) := by
  subst ho
  have hup := pos_upd hu hs
  intro a w hA hS
  obtain ⟨w', r1, r2, r3, r4, r5, r6, r7⟩ := storeCells_run (P := P) [bv .u32 v] w b off 0 (Wd l ++ sp) T0 (hS.own _ hup.mem.1) (by simp; omega) (by intro u hu'; simp at hu'; subst hu'; rfl)
  have hov : over (Wd l ++ sp) (off + 0) [bv .u32 v] = Wd (l.set off v) ++ sp := by
    have h1 : off < (Wd l ++ sp).length := by simp; omega
    have h2 : over (Wd l ++ sp) off [bv .u32 v] = (Wd l ++ sp).set off (bv .u32 v) := by
      rw [List.set_eq_take_append_cons_drop, if_pos h1]; simp [over]
    rw [Nat.add_zero, h2, List.set_append_left _ _ (by simpa using hj), Wd, Wd, List.map_set]
  have hrun : (execOp a.eval ⟨none, .store T x y, ty, pos, after, none⟩).run P w = .ok .skip w' := by
    have hl1 : (bv .u32 v).cells = [bv .u32 v].toArray := rfl
    have hl2 : ([bv .u32 v].toArray).size = 1 := rfl
    simp only [execOp, hA.eval hx, hA.eval hy, Instr.storeAt, Instr.sureAddr, storeVar, hl1, Sem.run_bind, hm, Result.andThen, pure, Sem.run, hl2, ne_eq, not_true_eq_false, if_false, r1]
  refine op1_run rfl hrun ?_
  simp only [Oper.upon, Act.put]
  exact h a w' hA (hS.upd hup r2 r3 r4 r5 (by rw [r6, hov]) r7)
/-- a word more -/
theorem o_appW {T t : Nat} {zv : Value} {ei : TypeInfo} {e t1 e1 : TypeId} {sv : Value} {ws : List (BitVec 32)} {x32 : BitVec 32} {b off cap T0 l : Nat} {ps : List Part} (g : VG) {F : List Seg}
    (hT : ∀ w, (underlying T).run P w = .ok (.slice e) w) (hs : ∀ w, (sizeOf e).run P w = .ok 1 w) (hz : ∀ w, (zeroValue e).run P w = .ok zv w) (hzs : zv.cells.size = 1) (hi : ∀ w, (typeInfo e).run P w = .ok ei w) (hby : ei.bytes = 4)
    (ht1 : ∀ w, (underlying t1).run P w = .ok (.slice e1) w) (hx : val E x = some sv) (hl : ws.length = l) (hsv : sv = g.val l) (hy : val E y = some (.slice (some ⟨b, off, none⟩) 1 cap)) (hok : g.ok 1 ws.length (Wd ws))
    [hm : InS b (obj T0 ps) (σ.R ++ M)] (hq : spanAt ps off 1 = some [P1 (bv .u32 x32) rfl]) [hF : TakeC (g.seg e (Wd ws)) M F]
    (hbig : ws.length ≤ 1099511627776) (ht : Nat.blt t n = true)
    (h : ∀ g' : VG, g'.ok 1 (ws ++ [x32]).length (Wd (ws ++ [x32])) → J n D ((t, g'.val (ws ++ [x32]).length) :: E) σ (g'.seg e (Wd (ws ++ [x32])) :: F) K) :
    J n D E σ M (Op1 P ops Q ⟨some t, .call ⟨.builtin .append, #[x, y], #[T, t1]⟩, ty, pos, after, none⟩ K) := by
  subst hl
  refine o_append (m := 1) (news := [bv .u32 x32]) (cs := Wd ws) (l := ws.length) (by_ := 4) g hT hs hz hzs hi hby ht1 hx hsv hy hok (reads_span (N := σ.R ++ M) (ps := ps) (T0 := T0) (qs := [P1 (bv .u32 x32) rfl]) (by simpa using hq)) rfl (by intro v hv; simp at hv; subst hv; rfl) (by omega) (by decide) ht (fun g' hg' => ?_)
  have he : Wd ws ++ [bv .u32 x32] = Wd (ws ++ [x32]) := by simp
  have hl : ws.length + 1 = (ws ++ [x32]).length := by simp
  rw [he, hl] at hg'
  rw [he, hl]
  exact h g' hg'
/-- a segment, spelled otherwise -/
theorem j_seg {T T' : Seg} {F : List Seg} [hT : TakeC T M F] (he : T = T') (h : J n D E σ (T' :: F) K) : J n D E σ M K := by
  subst he
  exact fun a w hA hS => h a w hA (hS.perm hT.take.perm)
/-- a slice of one's own that is not empty, as a block -/
theorem j_vgC {cs : List Value} {T : TypeId} {F : List Seg} {m : Nat} (t : Nat) (g : VG) (hx : look E t = some (g.val cs.length)) [hT : TakeC (g.seg T cs) M F] (hok : g.ok 1 cs.length cs) (hm : cs.length = m) (h0 : m ≠ 0)
    (h : ∀ (b cap : Nat) (sp : List Value), m ≤ cap → (cs ++ sp).length = cap → J n D ((t, .slice (some ⟨b, 0, none⟩) m cap) :: E) σ ([(b, .cells (cs ++ sp).toArray T (0, 0))] :: F) K) : J n D E σ M K := by
  subst hm
  cases g with
  | nil => exact absurd hok.1 h0
  | blk b cap sp => exact j_re t hx rfl fun a w hA hS => h b cap sp hok.2.2 (by have := hok.2.1; omega) a w hA (hS.perm hT.take.perm)
end
end Go.V
