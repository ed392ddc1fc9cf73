/- '==' of two pointers; what is found by a hash. -/
import Derived.Test.YtjoniieoaokimaaGreatVMp
import Derived.LaidEqlPtr
set_option linter.unusedVariables false
set_option linter.unusedSimpArgs false
set_option linter.unusedSectionVars false
set_option autoImplicit true
set_option relaxedAutoImplicit true
namespace Go.V
section
variable {P : Program} {E : Env} {x y : Operand} {N : List Seg} {S : World → Prop}
theorem eq_ptr {T te b c d : Nat} {j : TypeInfo} {cb cc : Array Value} {tb tc : TypeId} {w : World} (hp : P.underlying T = some (.pointer te)) (hte : P.info? te = some j) (hsz : j.size ≠ 0)
    (hb : w.heap[b]? = some (.cells cb tb (0, 0))) (hc : w.heap[c]? = some (.cells cc tc (0, 0))) :
    (Op.equalIn (d + 1) T (.pointer (some ⟨b, 0, none⟩)) (.pointer (some ⟨c, 0, none⟩))).run P w = .ok (decide (b = c)) w := by
  by_cases h : b = c
  · subst h
    simp [Op.equalIn, run_underlying hp, sizeOf, typeInfo, hte, run_sameAddr_same, hsz]
  · have hne : (⟨b, 0, none⟩ : Addr) ≠ ⟨c, 0, none⟩ := fun he => h (by cases he; rfl)
    have := run_sameAddr_other (P := P) w hne hb hc
    simp [Op.equalIn, run_underlying hp, sizeOf, typeInfo, hte, hsz, this, h]
theorem y_eqlP {T te b c : Nat} {U : TypeId} {j : TypeInfo} {cb cc : Array Value} {tb tc : TypeId} (hp : P.underlying T = some (.pointer te)) (hte : P.info? te = some j) (hsz : j.size ≠ 0) (hx : val E x = some (.pointer (some ⟨b, 0, none⟩))) (hy : val E y = some (.pointer (some ⟨c, 0, none⟩)))
    [hb : InS b (.cells cb tb (0, 0)) N] [hc : InS c (.cells cc tc (0, 0)) N] : Yl P (Pts N) E (.binOp .eql T x y U) (.bool (decide (b = c))) := by
  intro _ _ _ _ _ ρ hρ w hS
  have h1 := eq_ptr (d := 9999) (P := P) (w := w) hp hte hsz (hS _ hb.mem) (hS _ hc.mem)
  have he : (eqGuard .eql T x y (.pointer (some ⟨b, 0, none⟩)) (.pointer (some ⟨c, 0, none⟩))).run P w = .ok () w := by simp [eqGuard, pure, Sem.run]
  simp only [execOp, hρ _ _ hx, hρ _ _ hy, binOp, equal_is, Sem.run_bind, he, h1, Result.andThen_ok, pure]
  rfl
theorem y_neqP {T te b c : Nat} {U : TypeId} {j : TypeInfo} {cb cc : Array Value} {tb tc : TypeId} (hp : P.underlying T = some (.pointer te)) (hte : P.info? te = some j) (hsz : j.size ≠ 0) (hx : val E x = some (.pointer (some ⟨b, 0, none⟩))) (hy : val E y = some (.pointer (some ⟨c, 0, none⟩)))
    [hb : InS b (.cells cb tb (0, 0)) N] [hc : InS c (.cells cc tc (0, 0)) N] : Yl P (Pts N) E (.binOp .neq T x y U) (.bool (!decide (b = c))) := by
  intro _ _ _ _ _ ρ hρ w hS
  have h1 := eq_ptr (d := 9999) (P := P) (w := w) hp hte hsz (hS _ hb.mem) (hS _ hc.mem)
  have he : (eqGuard .neq T x y (.pointer (some ⟨b, 0, none⟩)) (.pointer (some ⟨c, 0, none⟩))).run P w = .ok () w := by simp [eqGuard, pure, Sem.run]
  simp only [execOp, hρ _ _ hx, hρ _ _ hy, binOp, equal_is, Sem.run_bind, he, h1, Result.andThen_ok, pure]
  rfl
end
section
variable {P : Program} {ops : Array Oper} {Q : Exit → Act → World → Prop} {K : Act → World → Prop} {n : Nat} {D : List Deferred} {E : Env} {σ : Bs} {M M' : List Seg}
/-- a guard that was not asked -/
theorem yielded_undef {j d : Nat} {a : Act} (hA : Has n D E a) (hj : ((ops[j]?).bind (·.dst)) = some d) (hb : look E d = some undef) : yielded ops a.tmps j = none := by
  have h2 := hA.look d _ hb
  simp only [yielded, hj, Option.bind_some]
  rcases Nat.lt_or_ge d a.tmps.size with h' | h'
  · simp only [Array.getD_eq_getD_getElem?, Array.getElem?_eq_getElem h', Option.getD_some] at h2 ⊢
    rw [h2]; rfl
  · rw [Array.getElem?_eq_none h']
theorem guard_undef {i : Nat} {b : Bool} {t op ty pos after d} (hi : ((ops[i]?).bind (·.dst)) = some d) (hb : look E d = some undef) (ht : Nat.blt t n = true)
    (h : J n D ((t, undef) :: E) σ M K) : J n D E σ M (Op1 P ops Q ⟨some t, op, ty, pos, after, some (i, b)⟩ K) := by
  intro a w hA hS
  unfold Op1
  rw [if_neg (by simp [Region.wanted, yielded_undef hA hi hb])]
  exact h _ w (hA.put t undef ht) hS
theorem d_nu {i t j d : Nat} {b : Bool} {op : Op} {ty pos after m S sz fuel k k'} (hi : ops[i]? = some ⟨some t, op, ty, pos, after, some (j, b)⟩) [hpf : PF Q] [hE : ES S] (ht : tkB ops sz k i k' = true)
    (hj : ((ops[j]?).bind (·.dst)) = some d) (hb : look E d = some undef) (hn : Nat.blt t n = true) (h : J n D ((t, undef) :: E) σ M (G P ops Q m S sz fuel k')) : J n D E σ M (G P ops Q m S sz (fuel + 1) k) :=
  d_take (S' := fun _ => True) hi hpf (.of ht) first_yields hE es_true (fun _ _ _ _ _ _ _ _ _ _ => trivial) (fun a w hA hS => .inr ⟨by simp [Region.wanted, yielded_undef hA hj hb], rfl⟩) (fun _ _ => trivial) hn h
/-- a call that reads, and leaves a value: taken first, where S tells -/
theorem d_cS {i t : Nat} {f : FuncId} {xs : List Operand} {vs : List Value} {tys : Array TypeId} {ty pos after v m S sz fuel k k'} (hi : ops[i]? = some ⟨some t, .call ⟨.value (.func f), xs.toArray, tys⟩, ty, pos, after, none⟩) [hpf : PF Q] [hE : ES S] (ht : tkB ops sz k i k' = true)
    (hla : late ops m i = true) (hf : ∀ args w, (callFunc f args).run P w = .ok (.enter f args) w) (hxs : vals E xs = some vs) (hc : PureS P S f vs v) (hSS : ∀ w, St σ.w0 σ.B0 σ.R M w → S w) (hn : Nat.blt t n = true) (h : J n D ((t, v) :: E) σ M (G P ops Q m S sz fuel k')) : J n D E σ M (G P ops Q m S sz (fuel + 1) k) :=
  d_take (S' := S) hi hpf (.of ht) first_calls hE hE (fun j oj listed hj h0 hall w w' hk hw => hk (late_spec hla hj h0 hall) hw) (fun a w hA hS => ⟨by simp [Region.wanted], f, vs.toArray, fun w => by
    have hargs : xs.toArray.map a.eval = vs.toArray := by rw [List.map_toArray, vals_map hA xs vs hxs]
    have h0 : a.eval (.func f) = .func (.func f) #[] #[] := rfl
    simp only [execOp, resolve, h0, Deferred.ofValue, hargs, Sem.run_bind, Result.andThen, pure, Sem.run, invoke, hf]
    simp [hf], fun w hw => hc w hw⟩) hSS hn h
end
end Go.V
