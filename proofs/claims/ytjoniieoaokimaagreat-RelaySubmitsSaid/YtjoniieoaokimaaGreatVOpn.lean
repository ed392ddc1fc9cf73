/- Arguments of the laws, opened: numbers, and slices of steps. -/
import Derived.Test.YtjoniieoaokimaaGreatVRrRow
import Derived.Test.YtjoniieoaokimaaGreatVRdp
import Derived.Deep.Slices
set_option linter.unusedVariables false
set_option linter.unusedSimpArgs false
set_option linter.unusedSectionVars false
set_option autoImplicit true
set_option relaxedAutoImplicit true
set_option maxRecDepth 100000
set_option maxHeartbeats 1000000
namespace Go.Proofs.YtjoniieoaokimaaGreat
open Go.ChangeShapes Go.WideShapes Go.ChangeAt Go.RowKit Go.V Go.Deep
theorem ok_intV {W : World} {base : Nat} {t : TypeId} {k : IntKind} {v : Value} (hu : Tryz.prog.underlying t = some (.int k)) (h : Value.okWide Tryz.prog W .any base t v) : ∃ z, v = .int k z ∧ k.has z := by
  refine ok_int (W := W) (base := base) hu ?_
  unfold Value.okWide at h
  rw [hu] at h
  exact h
theorem trod_int1 {H : Type} {enc : TypeId × Value → H} {P : Program} {w : World} {base : Nat} {spare : Nat → Bool} {held : Bool} {n : Nat} {t : TypeId} {k : IntKind} {cs : List Value} {x : DataW H × List MemPlace} (hu : P.underlying t = some (.int k))
    (h : DataW.trod enc P w base spare held n t cs = some x) : ∃ z, cs = [.int k z] ∧ (Lit.int k z).wf = true := by
  cases n with
  | zero => simp [DataW.trod] at h
  | succ n =>
    rw [DataW.trod_step] at h
    unfold DataW.trodStep at h
    rw [hu] at h
    match cs, h with
    | [.int k' z], h =>
      simp only at h
      split at h
      · rename_i hk; obtain ⟨rfl, hw⟩ := hk; exact ⟨z, rfl, hw⟩
      · cases h
    | [], h => simp at h
    | [.bool _], h => simp at h
    | [.float _ _], h => simp at h
    | [.complex _ _ _], h => simp at h
    | [.string _], h => simp at h
    | [.pointer _], h => simp at h
    | [.slice _ _ _], h => simp at h
    | [.map _], h => simp at h
    | [.chan _], h => simp at h
    | [.func _ _ _], h => simp at h
    | [.nilFunc], h => simp at h
    | [.iface _ _], h => simp at h
    | [.nilIface], h => simp at h
    | [.agg _], h => simp at h
    | [.tuple _], h => simp at h
    | _ :: _ :: _, h => simp at h
theorem wf_has {k : IntKind} {z : Int} (h : (Lit.int k z).wf = true) : k.has z := by
  simpa [Lit.wf, IntKind.has] using h
theorem trod_st {H : Type} {enc : TypeId × Value → H} {w : World} {base : Nat} {spare : Nat → Bool} {held : Bool} {n : Nat} {cs : List Value} {x : DataW H × List MemPlace}
    (h : DataW.trod enc Tryz.prog w base spare held n 46 cs = some x) : ∃ st : Stp, cs = flat (stP st) := by
  cases n with
  | zero => simp [DataW.trod] at h
  | succ n =>
    have hc46 : Tryz.prog.cellsOf 46 = 4 := by kernel_rfl
    have hc3 : Tryz.prog.cellsOf 3 = 1 := by kernel_rfl
    have hc21 : Tryz.prog.cellsOf 21 = 1 := by kernel_rfl
    have hc5 : Tryz.prog.cellsOf 5 = 1 := by kernel_rfl
    rw [DataW.trod_step] at h
    unfold DataW.trodStep at h
    rw [Tryz.underlying46] at h
    simp only [hc46] at h
    split at h
    · rename_i hl
      obtain ⟨xs, hx, _⟩ := Option.map_eq_some_iff.1 h
      have each := mapM_each hx
      match cs, hl with
      | [a, b, c, d], _ =>
        have e0 := each _ (by simp; exact .inl rfl)
        have e1 := each _ (by simp; exact .inr (.inl rfl))
        have e2 := each _ (by simp; exact .inr (.inr (.inl rfl)))
        have e3 := each _ (by simp; exact .inr (.inr (.inr rfl)))
        simp only [hc3, hc21, hc5] at e0 e1 e2 e3
        obtain ⟨_, e0⟩ := e0
        obtain ⟨_, e1⟩ := e1
        obtain ⟨_, e2⟩ := e2
        obtain ⟨_, e3⟩ := e3
        obtain ⟨z0, h0, _⟩ := trod_int1 Tryz.underlying3 e0
        obtain ⟨z1, h1, _⟩ := trod_int1 Tryz.underlying3 e1
        obtain ⟨z2, h2, _⟩ := trod_int1 Tryz.underlying21 e2
        obtain ⟨z3, h3, w3⟩ := trod_int1 Tryz.underlying5 e3
        simp at h0 h1 h2 h3
        subst h0 h1 h2 h3
        exact ⟨⟨z0, z1, z2, BitVec.ofInt 8 z3⟩, by simp [stP, flat, P1, bv_has UK.u8 (wf_has w3)]⟩
    · cases h
theorem open_steps {H : Type} {enc : TypeId × Value → H} {W : World} {base b0 : Nat} {held : Bool} {v : Value} {d : DataW H} {ps : List MemPlace} (hv : Value.okWide Tryz.prog W .any base 23 v) (h : DataW.Trod enc Tryz.prog W b0 (fun _ => true) held 23 v d ps) :
    ∃ (A : Option Addr) (n cap : Nat) (Rd : List Seg), v = .slice A n cap ∧ StepsIn A n Rd ∧ Pts Rd W := by
  have hc46 : Tryz.prog.cellsOf 46 = 4 := by kernel_rfl
  obtain ⟨fuel, h⟩ := h
  rcases open_slice Tryz.underlying23 h with ⟨hcs, _⟩ | ⟨a, len, cap, m, n, D, Pl, hcs, _, hl, _, hm, _, hx⟩
  · refine ⟨none, 0, 0, [], ?_, fun k hk => absurd hk (Nat.not_lt_zero _), fun p hp => by simp at hp⟩
    cases v <;> simp_all [Value.cells]
    unfold Value.okWide at hv
    rw [Tryz.underlying23] at hv
    simp [Cell.okWide, Cell.ok, Tryz.underlying23] at hv
  · have hve : v = .slice (some a) len cap := by
      cases v <;> simp_all [Value.cells]
      unfold Value.okWide at hv
      rw [Tryz.underlying23] at hv
      simp [Cell.okWide, Cell.ok, Tryz.underlying23] at hv
    subst hve
    unfold Value.okWide at hv
    rw [Tryz.underlying23] at hv
    simp only [Cell.okWide, Cell.ok, Tryz.underlying23] at hv
    obtain ⟨_, _, _, hspot, row, cells, hsh, _⟩ := hv
    have hblk : ∃ c T fr, W.heap[a.block]? = some (.cells c T fr) := by
      unfold World.shape? at hsh
      cases hh : W.heap[a.block]? with
      | none => rw [hh] at hsh; cases hsh
      | some o =>
        rw [hh] at hsh
        cases o <;> first | exact ⟨_, _, _, rfl⟩ | cases hsh
    obtain ⟨c, T, fr, hb⟩ := hblk
    obtain ⟨blk, off, spot⟩ := a
    simp only at hspot hb
    subst hspot
    refine ⟨_, len, cap, [[(blk, .cells c.toList.toArray T fr)]], rfl, fun k hk => ?_, fun p hp => by simp at hp; subst hp; simpa using hb⟩
    simp only [if_true] at hm
    obtain ⟨cs, h1, h2⟩ := hx k (by omega)
    obtain ⟨st, rfl⟩ := trod_st h2
    rw [hc46] at h1
    obtain ⟨_, h3, h4⟩ := World.cells?_some h1
    refine ⟨st, blk, off, c.toList, T, fr, rfl, by simp, fun j u hj => ?_⟩
    have hj4 : j < 4 := by
      rcases Nat.lt_or_ge j 4 with h' | h'
      · exact h'
      · rw [List.getElem?_eq_none (by rw [h3]; exact h')] at hj; cases hj
    have h5 := h4 j hj4
    rw [hj, add_add] at h5
    have hadd : (Addr.add ⟨blk, off, none⟩ (k * 4 + j)) = ⟨blk, off + (k * 4 + j), none⟩ := by
      simp only [Addr.add]; split <;> simp_all
    rw [hadd] at h5
    simp only [World.cell?, hb] at h5
    rw [Nat.add_assoc]
    simpa using h5
end Go.Proofs.YtjoniieoaokimaaGreat
