/- Slices of rows: elements of some cells each. -/
import Derived.Test.YtjoniieoaokimaaGreatVIter2
set_option linter.unusedVariables false
set_option linter.unusedSimpArgs false
set_option linter.unusedSectionVars false
set_option autoImplicit true
set_option relaxedAutoImplicit true
namespace Go.V
section
variable {P : Program} {ops : Array Oper} {Q : Exit → Act → World → Prop} {K : Act → World → Prop} {n : Nat} {D : List Deferred} {E : Env} {σ : Bs} {M M' N F : List Seg} {x y : Operand} {ty : TypeId} {pos : String} {after : Array Edge}
def rowC {α : Type} (f : α → List Part) (l : List α) : List Value := l.flatMap fun a => flat (f a)
theorem rowC_len {α : Type} {f : α → List Part} {m : Nat} (hf : ∀ a, total (f a) = m) (l : List α) : (rowC f l).length = l.length * m := by
  induction l with
  | nil => simp [rowC]
  | cons a l ih => simp only [rowC, List.flatMap_cons, List.length_append, flat_length, hf, List.length_cons] at ih ⊢; rw [ih, Nat.succ_mul]; omega
theorem rowC_app {α : Type} (f : α → List Part) (l l' : List α) : rowC f (l ++ l') = rowC f l ++ rowC f l' := by simp [rowC]
theorem rowC_one {α : Type} (f : α → List Part) (l : List α) : ∀ v ∈ rowC f l, one1 v = true := fun v hv => by
  simp only [rowC, List.mem_flatMap] at hv
  obtain ⟨a, _, h⟩ := hv
  exact flat_one _ v h
theorem rowC_get {α : Type} {f : α → List Part} {m : Nat} (hf : ∀ a, total (f a) = m) (d : α) : ∀ (l : List α) (i j : Nat) (v : Value), i < l.length → (flat (f (l.getD i d)))[j]? = some v → (rowC f l)[i * m + j]? = some v
  | [], _, _, _, h, _ => by simp at h
  | a :: l, 0, j, v, _, hj => by
    simp only [List.getD_cons_zero] at hj
    have hlt : j < (flat (f a)).length := by
      rcases Nat.lt_or_ge j (flat (f a)).length with h' | h'
      · exact h'
      · rw [List.getElem?_eq_none h'] at hj; cases hj
    simp only [rowC, List.flatMap_cons, Nat.zero_mul, Nat.zero_add]
    rw [List.getElem?_append_left hlt]; exact hj
  | a :: l, i + 1, j, v, hi, hj => by
    simp only [List.getD_cons_succ] at hj
    have := rowC_get hf d l i j v (by simpa using hi) hj
    simp only [rowC, List.flatMap_cons] at this ⊢
    have e : (i + 1) * m + j - (flat (f a)).length = i * m + j := by rw [flat_length, hf, Nat.succ_mul]; omega
    rw [List.getElem?_append_right (by rw [flat_length, hf, Nat.succ_mul]; omega), e]
    exact this
/-- some cells that are told -/
theorem y_loadCs {T b off m T0 : Nat} {l cs : List Value} {fr : Nat × Nat} (hA : ∀ w, (isAgg T).run P w = .ok true w) (hz : ∀ w, (sizeOf T).run P w = .ok m w) (o' : Nat) (hx : val E x = some (.pointer (some ⟨b, off, none⟩))) [hm : InS b (.cells l.toArray T0 fr) N] (ho : off = o')
    (hl : cs.length = m) (hc : ∀ j v, cs[j]? = some v → l[o' + j]? = some v) : Yl P (Pts N) E (.load T x) (.agg cs.toArray) := by
  intro _ _ _ _ _ ρ hρ w hS
  subst ho
  have h1 := V.run_loadCells (P := P) (w := w) (b := b) (off := off) (cs := cs) (hS _ hm.mem) hc
  rw [hl] at h1
  simp [execOp, hρ _ _ hx, Instr.loadAt, Instr.sureAddr, loadVar, hA, hz, h1, Sem.run, pure]
/-- an element of a row -/
theorem l_row {α : Type} {f : α → List Part} {T b off m T0 : Nat} {l : List α} {sp : List Value} {fr : Nat × Nat} (hA : ∀ w, (isAgg T).run P w = .ok true w) (hz : ∀ w, (sizeOf T).run P w = .ok m w) (hf : ∀ a, total (f a) = m) (d : α) (i : Nat)
    (hx : val E x = some (.pointer (some ⟨b, off, none⟩))) [hm : InS b (.cells (rowC f l ++ sp).toArray T0 fr) N] (ho : off = i * m) (hi : i < l.length) : Yl P (Pts N) E (.load T x) (vagg (f (l.getD i d))) :=
  y_loadCs hA hz (i * m) hx ho (by rw [flat_length, hf]) (fun j v hj => by
    have h1 := rowC_get hf d l i j v hi hj
    have hlt : i * m + j < (rowC f l).length := by
      rcases Nat.lt_or_ge (i * m + j) (rowC f l).length with h' | h'
      · exact h'
      · rw [List.getElem?_eq_none h'] at h1; cases h1
    rw [List.getElem?_append_left hlt]; exact h1)
/-- one more -/
theorem o_appR {α : Type} {f : α → List Part} {T e sz by_ t b off cap T0 k : Nat} {zv sv : Value} {ei : TypeInfo} {l : List α} {a : α} {ps : List Part} (g : VG)
    (hT : ∀ w, (underlying T).run P w = .ok (.slice e) w) (hs : ∀ w, (sizeOf e).run P w = .ok sz w) (hz : ∀ w, (zeroValue e).run P w = .ok zv w) (hzs : zv.cells.size = sz) (hi : ∀ w, (typeInfo e).run P w = .ok ei w) (hby : ei.bytes = by_) (hf : ∀ a, total (f a) = sz)
    (hx : val E x = some sv) (hl : l.length = k) (hsv : sv = g.val k) (hy : val E y = some (.slice (some ⟨b, off, none⟩) 1 cap)) (hok : g.ok sz l.length (rowC f l))
    [hm : InS b (obj T0 ps) (σ.R ++ M)] (hq : spanAt ps off sz = some (f a)) [hF : TakeC (g.seg e (rowC f l)) M F] (hbig : (2 * (l.length + 1) + 768) * by_ ≤ 281474976710656) (hb0 : by_ ≠ 0) (ht : Nat.blt t n = true)
    (h : ∀ g' : VG, g'.ok sz (l ++ [a]).length (rowC f (l ++ [a])) → J n D ((t, g'.val (l ++ [a]).length) :: E) σ (g'.seg e (rowC f (l ++ [a])) :: F) K) :
    J n D E σ M (Op1 P ops Q ⟨some t, .call ⟨.builtin .append, #[x, y], #[T, T]⟩, ty, pos, after, none⟩ K) := by
  subst hl
  refine o_append (m := 1) (news := flat (f a)) (cs := rowC f l) (l := l.length) (by_ := by_) g hT hs hz hzs hi hby hT hx hsv hy hok (reads_span (N := σ.R ++ M) (ps := ps) (T0 := T0) (qs := f a) (by rw [Nat.one_mul]; exact hq)) (by rw [flat_length, hf, Nat.one_mul]) (flat_one _) hbig hb0 ht (fun g' hg' => ?_)
  have he : rowC f l ++ flat (f a) = rowC f (l ++ [a]) := by simp [rowC]
  have hl : l.length + 1 = (l ++ [a]).length := by simp
  rw [he, hl] at hg'
  rw [he, hl]
  exact h g' hg'
/-- a slice of one's own that is not empty, as a block -/
theorem j_vgN {cs : List Value} {T : TypeId} {sz m : Nat} (t : Nat) (g : VG) (hx : look E t = some (g.val m)) [hT : TakeC (g.seg T cs) M F] (hok : g.ok sz m cs) (h0 : m ≠ 0)
    (h : ∀ (b cap : Nat) (sp : List Value), m ≤ cap → (cs ++ sp).length = cap * sz → J n D ((t, .slice (some ⟨b, 0, none⟩) m cap) :: E) σ ([(b, .cells (cs ++ sp).toArray T (0, 0))] :: F) K) : J n D E σ M K := by
  cases g with
  | nil => exact absurd hok.1 h0
  | blk b cap sp => exact j_re t hx rfl fun a w hA hS => h b cap sp hok.2.2 hok.2.1 a w hA (hS.perm hT.take.perm)
/-- .. and back -/
theorem vg_back {cs : List Value} {sz m b cap : Nat} {sp : List Value} (h1 : cs.length = m * sz) (h2 : m ≤ cap) (h3 : (cs ++ sp).length = cap * sz) : (VG.blk b cap sp).ok sz m cs := ⟨h1, h3, h2⟩
end
end Go.V
