/- From a call's contract to a law's row. -/
import Derived.Test.YtjoniieoaokimaaGreatVSl
import Derived.Test.YtjoniieoaokimaaGreatRows
import Derived.ProofKit
set_option linter.unusedVariables false
set_option linter.unusedSimpArgs false
set_option linter.unusedSectionVars false
set_option autoImplicit true
set_option relaxedAutoImplicit true
namespace Go.V
open Go.RowKit Go.ChangeShapes Go.WideShapes
/-- an argument of a kind that holds numbers alone: each cell is one -/
theorem ok_agg {P : Program} {W : World} {base : Nat} {t : TypeId} {v : Value} {ts : List TypeId} (h : Value.okWide P W .any base t v) (hu : (match P.underlying t with | some (.struct _) | some (.array _ _) => true | _ => false) = true)
    (hts : P.cellTypes P.depth t = some ts) : ∃ cs : List Value, v = .agg cs.toArray ∧ cs.length = P.cellsOf t ∧ ∀ (i : Nat) (c : Value), cs[i]? = some c → ∃ u, ts[i % ts.length]? = some u ∧ Cell.okWide P W .any base u c := by
  have key : ∃ cs, v = .agg cs ∧ cs.size = P.cellsOf t ∧ Row.okWide P W .any base t cs := by
    unfold Value.okWide at h
    cases hd : P.underlying t with
    | none => rw [hd] at hu; cases hu
    | some d =>
      rw [hd] at hu h
      cases d <;> first | exact h | (cases hu)
  obtain ⟨cs, rfl, h2, ts', h3, _, h4⟩ := key
  rw [hts] at h3
  cases h3
  exact ⟨cs.toList, by simp, by simpa using h2, fun i c hc => h4 i c (by simpa using hc)⟩
theorem ok_int {P : Program} {W : World} {base : Nat} {u : TypeId} {k : IntKind} {c : Value} (hu : P.underlying u = some (.int k)) (h : Cell.okWide P W .any base u c) : ∃ z, c = .int k z ∧ k.has z := by
  unfold Cell.okWide at h
  rw [hu] at h
  have h : Cell.ok P W .any base u c := by cases c <;> exact h
  unfold Cell.ok at h
  rw [hu] at h
  cases c <;> first | (exact h.elim) | skip
  obtain ⟨rfl, h2⟩ := h
  exact ⟨_, rfl, h2⟩
theorem bv_has {k : IntKind} {m : Nat} (hk : UK k m) {z : Int} (h : k.has z) : bv k (BitVec.ofInt m z) = .int k z := by
  obtain ⟨h1, h2⟩ := h
  have : ((BitVec.ofInt m z).toNat : Int) = z := by
    cases hk <;> simp [IntKind.min, IntKind.max, IntKind.signed, IntKind.bits] at h1 h2 <;> simp [BitVec.toNat_ofInt] <;> omega
  rw [bv, this]
/-- numbers of these kinds, in this order -/
def intsOf (ks : List IntKind) (zs : List Int) : List Value := List.zipWith (fun k z => Value.int k z) ks zs
theorem ok_ints {P : Program} {W : World} {base : Nat} {ts : List TypeId} {cs : List Value} : ∀ (ks : List IntKind), cs.length = ks.length → ts.length = ks.length → (∀ (i : Nat) (k : IntKind), ks[i]? = some k → ∃ u, ts[i]? = some u ∧ P.underlying u = some (.int k)) →
    (∀ (i : Nat) (c : Value), cs[i]? = some c → ∃ u, ts[i % ts.length]? = some u ∧ Cell.okWide P W .any base u c) → ∃ zs : List Int, zs.length = ks.length ∧ cs = intsOf ks zs ∧ ∀ (i : Nat) (k : IntKind) (z : Int), ks[i]? = some k → zs[i]? = some z → k.has z := by
  intro ks h1 h2 h3 h4
  have hc : ∀ i, i < ks.length → ∃ z, cs[i]? = some (.int (ks.getD i .i64) z) ∧ (ks.getD i .i64).has z := by
    intro i hi
    have hi' : i < cs.length := by omega
    obtain ⟨u, hu, ho⟩ := h4 i cs[i] (List.getElem?_eq_getElem hi')
    obtain ⟨u', hu', hk⟩ := h3 i ks[i] (List.getElem?_eq_getElem hi)
    rw [h2, Nat.mod_eq_of_lt hi, hu'] at hu
    cases hu
    obtain ⟨z, hz, hh⟩ := ok_int hk ho
    have e : ks.getD i .i64 = ks[i] := by simp [List.getD, List.getElem?_eq_getElem hi]
    exact ⟨z, by rw [e, List.getElem?_eq_getElem hi', hz], by rw [e]; exact hh⟩
  refine ⟨cs.map (fun c => match c with | .int _ z => z | _ => 0), by simp [h1], ?_, ?_⟩
  · apply List.ext_getElem?
    intro i
    by_cases hi : i < ks.length
    · obtain ⟨z, hz, _⟩ := hc i hi
      have e : ks[i]? = some (ks.getD i .i64) := by simp [List.getD, List.getElem?_eq_getElem hi]
      simp only [intsOf, List.getElem?_zipWith, List.getElem?_map, hz, e, Option.map_some]
    · rw [List.getElem?_eq_none (by omega), List.getElem?_eq_none (by simp [intsOf, h1]; omega)]
  · intro i k z hk hz
    have hi : i < ks.length := (List.getElem?_eq_some_iff.1 hk).1
    obtain ⟨z', hz', hh⟩ := hc i hi
    rw [List.getElem?_map, hz'] at hz
    simp only [Option.map_some, Option.some.injEq] at hz
    have e : ks.getD i .i64 = k := by simp [List.getD, hk]
    rw [e] at hh
    rw [← hz]; exact hh
theorem Ext.below {W W' : World} (h : Ext W W') : Below W.heap.size W W' := St.below h
/-- all arguments read as they did -/
theorem trodAll_below {H : Type} {enc : TypeId × Value → H} {P : Program} (hl : laidOutB P = true) {W W' : World} (hb : Below W.heap.size W W') : ∀ (ts : List TypeId) (vs : List Value) (ds : List (DataW H)) (ps : List MemPlace),
    (∀ t ∈ ts, P.readableRec t = true ∧ t < P.types.size) → (∀ x ∈ ps, x.block < W.heap.size) → DataW.TrodAll enc P W 0 (fun _ => true) true ts vs ds ps → DataW.TrodAll enc P W' 0 (fun b => decide (b < W.heap.size)) true ts vs ds ps
  | [], [], [], _, _, _, h => h
  | t :: ts, v :: vs, d :: ds, ps, hr, hlt, ⟨p, q, h1, h2, h3⟩ => by
    subst h3
    exact ⟨p, q, Below.trod hl (hr t (by simp)).1 (hr t (by simp)).2 h1 hb (fun x hx => hlt x (List.mem_append.2 (.inl hx))), trodAll_below hl hb ts vs ds q (fun u hu => hr u (List.mem_cons_of_mem _ hu)) (fun x hx => hlt x (List.mem_append.2 (.inr hx))) h2, rfl⟩
  | [], _ :: _, _, _, _, _, h => h.elim
  | [], [], _ :: _, _, _, _, h => h.elim
  | _ :: _, [], _, _, _, _, h => h.elim
  | _ :: _, _ :: _, [], _, _, _, h => h.elim
end Go.V
