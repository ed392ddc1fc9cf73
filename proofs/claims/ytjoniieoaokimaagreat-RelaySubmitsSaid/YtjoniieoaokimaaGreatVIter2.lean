/- Ranges over functions whose assignments make variables. -/
import Derived.Test.YtjoniieoaokimaaGreatVPtr
set_option linter.unusedVariables false
set_option linter.unusedSimpArgs false
set_option linter.unusedSectionVars false
set_option autoImplicit true
set_option relaxedAutoImplicit true
namespace Go.V
section
variable {P : Program} {ops : Array Oper} {Q : Exit → Act → World → Prop} {K : Act → World → Prop} {n : Nat} {D : List Deferred} {E : Env} {σ : Bs} {M M' N : List Seg} {o : Oper} {rest : List Oper}
variable {ty : TypeId} {pos : String} {after : Array Edge} {x y z : Operand} {S : World → Prop}
/-- 'for ps := range g { body }'. X: what is there between two rounds (the caller's blocks); Z: what is there when a round has left the loop by a jump. -/
theorem c_rangeA {ps : List Tmp} {assign body : Code} {gf : FuncId} {caps : List Value} {xs : List (List Value)} {S : World → Prop} {X Z : Type} (MI : X → List Seg) (p : Nat → X → Prop) (MZ : Z → List Seg) (pz : Code → Z → Prop) {Y : Type} (EA : List Value → Y → Env) (MA : List Value → Y → List Seg) (x0 : X) (h0 : p 0 x0) {F : List Seg}
    [hM : TakesC (MI x0) M F]
    (hg : val E x = some (.func (.func gf) #[] caps.toArray)) (eg : ∀ args w, (callFunc gf args).run P w = .ok (.enter gf args) w) (hit : Iter P gf caps xs S)
    (hS : ∀ k y w, p k y → St σ.w0 σ.B0 σ.R (MI y) w → S w) (hps : ∀ vs ∈ xs, vs.length = ps.length) (hn : (ps.all fun t => Nat.blt t n) = true)
    (assigned : ∀ (l k : Nat) (y : X) (vs : List Value) (w : World), p k y → xs[k]? = some vs →
      J n [] (paramsEnv ps vs E) ⟨w, [], []⟩ [] (CI (some l) P assign (Exit.then (fun a w' => ∃ q, Has n [] (EA vs q) a ∧ St w [] [] (MA vs q) w') (fun _ _ _ => False))))
    (round : ∀ (l k : Nat) (y : X) (vs : List Value) (q : Y) (w : World), p k y → xs[k]? = some vs →
      J n [] (EA vs q) ⟨w, dom (MA vs q ++ MI y), σ.R⟩ (MA vs q ++ MI y) (CI (some l) P body (roundK (p (k + 1)) MI pz MZ w (dom (MA vs q ++ MI y)))))
    (done : ∀ (b : Nat) (y : X), p xs.length y → J n (mark b :: D) E σ ([(b, .deferred (some []))] :: MI y) (Q .normal))
    (stop : ∀ (b : Nat) (c : Code) (z : Z), pz c z → J n (mark b :: D) E σ ([(b, .deferred (some []))] :: MZ z) (CI none P c Q)) :
    J n D E σ M ((Code.rangeFunc x ps.toArray assign body).wp P Q) := by
  intro a w hA hSt
  refine wpIn_wide.1 (wpIn_rangeFunc (F := Fence.wide) (n := 0) fun fn _ => ?_)
  -- the two blocks
  let rec_ : LoopState → Option Code → Loop := fun s j => { state := s, pending := j, fn, tmps := a.tmps, params := ps.toArray, assign, body, defers := w.heap.size }
  have hst0 : St σ.w0 σ.B0 σ.R (MI x0) w := hSt.take hM.takes
  have hst1 : St σ.w0 σ.B0 σ.R ([(w.heap.size + 1, .loop (rec_ .ready none))] :: [(w.heap.size, .deferred (some []))] :: MI x0) ((w.alloc (.deferred (some []))).alloc (.loop (rec_ .ready none))) := by
    have := (hst0.alloc (.deferred (some []))).alloc (.loop (rec_ .ready none))
    simpa using this
  let W1 : World := (w.alloc (.deferred (some []))).alloc (.loop (rec_ .ready none))
  let L := w.heap.size + 1
  let dB := w.heap.size
  let I : Nat → World → Prop := fun k W => ∃ y, p k y ∧ St σ.w0 σ.B0 σ.R ([(L, .loop (rec_ .ready none))] :: [(dB, .deferred (some []))] :: MI y) W
  let Xp : World → Prop := fun W => ∃ c z, pz c z ∧ St σ.w0 σ.B0 σ.R ([(L, .loop (rec_ .done (some c)))] :: [(dB, .deferred (some []))] :: MZ z) W
  refine ⟨L, [{ target := .collected w.heap.size, args := #[] }], W1, { target := .fn (.func gf) caps.toArray, args := #[.func (.yield L) #[] #[]] }, W1, gf, #[.func (.yield L) #[] #[]] ++ caps.toArray, W1, run_enterLoop_outer _ _ _ _ _, ?_, fun _ _ => trivial, ?_, fun h => (by simp [Fence.wide] at h), ?_⟩
  · have := hA.eval hg
    simp only [resolve, this]
    simp [go_sem]
  · simp [invoke, go_sem, eg]
  have hround : ∀ k W vs, xs[k]? = some vs → I k W → RoundOK P L vs W fun v w' => (v = .bool true ∧ I (k + 1) w') ∨ (v = .bool false ∧ Xp w') := by
    rintro k W vs hk ⟨y, hp, hW⟩
    have hl : W.heap[L]? = some (.loop (rec_ .ready none)) := hW.own (L, _) (by simp)
    refine ⟨_, hl, by simpa [rec_] using hps vs (List.mem_of_getElem? hk), roundIn_of_wpIn trivial ?_⟩
    have hA' : Has n [] E ⟨a.tmps, []⟩ := ⟨rfl, hA.size, hA.look⟩
    have hpar := has_params ps vs E a.tmps (fun t ht => by have := List.all_eq_true.1 hn t ht; rwa [Nat.blt_eq] at this) hA'
    have hz : (ps.toArray.zip vs.toArray).foldl (fun tmps (x : Tmp × Value) => match x with | (t, a) => tmps.setIfInBounds t a) a.tmps = (ps.zip vs).foldl (fun tmps (p : Tmp × Value) => tmps.setIfInBounds p.1 p.2) a.tmps := by
      simp [List.zip_toArray]
    have hass := assigned L k y vs W hp hk _ W hpar (St.init0 (by intro p hp; simp at hp))
    rw [← hz] at hass
    refine wpIn_mono hass ?_
    intro e a1 w1 hq
    cases e with
    | normal =>
      obtain ⟨q, hA1, hSt1⟩ := hq
      have hW1 : St σ.w0 σ.B0 σ.R ([(L, .loop (rec_ .ready none))] :: [(dB, .deferred (some []))] :: (MA vs q ++ MI y)) w1 := (hW.quiet hSt1).perm (by
        have e1 : (MA vs q ++ ([(L, .loop (rec_ .ready none))] :: [(dB, .deferred (some []))] :: MI y)) = MA vs q ++ ([(L, .loop (rec_ .ready none))] :: [(dB, .deferred (some []))] :: []) ++ MI y := by simp
        have e2 : ([(L, .loop (rec_ .ready none))] :: [(dB, .deferred (some []))] :: (MA vs q ++ MI y)) = ([(L, .loop (rec_ .ready none))] :: [(dB, .deferred (some []))] :: []) ++ MA vs q ++ MI y := by simp
        rw [e1, e2, List.flatten_append, List.flatten_append, List.flatten_append, List.flatten_append]
        exact List.Perm.append_right _ List.perm_append_comm)
      have hl1 : w1.heap[L]? = some (.loop (rec_ .ready none)) := hW1.own (L, _) (by simp)
      refine ⟨_, run_beginRound hl1 rfl, ?_⟩
      have hW2 : St σ.w0 σ.B0 σ.R ([(L, .loop (rec_ .busy none))] :: [(dB, .deferred (some []))] :: (MA vs q ++ MI y)) (w1.putObj L (.loop (rec_ .busy none))) := putObj_st hW1 Upd.one
      have hin : St (w1.putObj L (.loop (rec_ .busy none))) (dom (MA vs q ++ MI y)) σ.R (MA vs q ++ MI y) (w1.putObj L (.loop (rec_ .busy none))) := hW2.drop1.drop1.rebase
      refine wpIn_mono (round L k y vs q _ hp hk a1 _ hA1 hin) ?_
      have fin : ∀ (jump : Option Code) (N : List Seg) (W3 : World), St (w1.putObj L (.loop (rec_ .busy none))) (dom (MA vs q ++ MI y)) [] N W3 →
          ∃ W4, (Instr.endRound L jump).run P W3 = .ok (.bool jump.isNone) W4 ∧ St σ.w0 σ.B0 σ.R ([(L, .loop (rec_ (if jump.isNone then .ready else .done) jump))] :: [(dB, .deferred (some []))] :: N) W4 := by
        intro jump N W3 h3
        have h4 : St σ.w0 σ.B0 σ.R (N ++ ([(L, .loop (rec_ .busy none))] :: [(dB, .deferred (some []))] :: [])) W3 :=
          hW2.call (L := MA vs q ++ MI y) (F := [(L, .loop (rec_ .busy none))] :: [(dB, .deferred (some []))] :: []) (by
            have : ([(L, .loop (rec_ .busy none))] :: [(dB, .deferred (some []))] :: (MA vs q ++ MI y)) = ([(L, .loop (rec_ .busy none))] :: [(dB, .deferred (some []))] :: []) ++ (MA vs q ++ MI y) := rfl
            have e : ∀ A B : List Seg, (A ++ B).flatten.Perm (B ++ A).flatten := fun A B => by rw [List.flatten_append, List.flatten_append]; exact List.perm_append_comm
            rw [this]
            exact e _ _) h3
        have h5 : St σ.w0 σ.B0 σ.R ([(L, .loop (rec_ .busy none))] :: [(dB, .deferred (some []))] :: N) W3 := h4.perm (by
          have : ([(L, .loop (rec_ .busy none))] :: [(dB, .deferred (some []))] :: N) = ([(L, .loop (rec_ .busy none))] :: [(dB, .deferred (some []))] :: []) ++ N := rfl
          rw [this, List.flatten_append, List.flatten_append]
          exact List.perm_append_comm)
        have hl3 : W3.heap[L]? = some (.loop (rec_ .busy none)) := h5.own (L, _) (by simp)
        exact ⟨_, run_endRound jump hl3, putObj_st h5 Upd.one⟩
      intro e a3 w3 hq
      cases e with
      | normal =>
        obtain ⟨y', hp', h3⟩ := hq
        obtain ⟨W4, hr, h4⟩ := fin none _ _ h3
        exact ⟨_, _, hr, _, rfl, .inl ⟨rfl, y', hp', h4⟩⟩
      | ret =>
        obtain ⟨z, hp', h3⟩ := hq
        obtain ⟨W4, hr, h4⟩ := fin (some .ret) _ _ h3
        exact ⟨_, _, hr, _, rfl, .inr ⟨rfl, _, z, hp', h4⟩⟩
      | exit i =>
        obtain ⟨z, hp', h3⟩ := hq
        obtain ⟨W4, hr, h4⟩ := fin (some (.exit i)) _ _ h3
        exact ⟨_, _, hr, _, rfl, .inr ⟨rfl, _, z, hp', h4⟩⟩
      | goto _ => exact hq.elim
      | panic _ => exact hq.elim
      | outgrown => exact hq.elim
    | exit _ => exact hq.elim
    | goto _ => exact hq.elim
    | ret => exact hq.elim
    | panic _ => exact hq.elim
    | outgrown => exact hq.elim
  have hcalls := hit L I Xp (fun k W ⟨y, hp, hW⟩ => hS k y W hp hW.drop1.drop1) (fun k W W' he ⟨y, hp, hW⟩ => ⟨y, hp, he.st hW⟩) (fun W W' he ⟨c, z, hp, hW⟩ => ⟨c, z, hp, he.st hW⟩) hround _ ⟨x0, h0, hst1⟩
  have hargs : #[Value.func (.yield L) #[] #[]] ++ caps.toArray = (.func (.yield L) #[] #[] :: caps).toArray := by simp
  rw [hargs]
  refine CallsIn.mono (callsIn_wide.2 hcalls) ?_
  have hA2 : Has n (mark dB :: D) E { a with defers := [{ target := .collected w.heap.size, args := #[] }] ++ a.defers } := ⟨by simp [hA.defers, mark, dB], hA.size, hA.look⟩
  rintro e W2 ⟨v, rfl, ⟨y, hp, hW⟩ | ⟨c, z, hp, hW⟩⟩
  · have hl : W2.heap[L]? = some (.loop (rec_ .ready none)) := hW.own (L, _) (by simp)
    exact ⟨none, _, run_endLoop hl (by simp [rec_]), done dB y hp _ _ hA2 (putObj_st (o' := .loop (rec_ .exhausted none)) hW Upd.one).drop1⟩
  · have hl : W2.heap[L]? = some (.loop (rec_ .done (some c))) := hW.own (L, _) (by simp)
    exact ⟨some c, _, run_endLoop hl (by simp [rec_]), stop dB c z hp _ _ hA2 (putObj_st (o' := .loop (rec_ .exhausted (some c))) hW Upd.one).drop1⟩
/-- the same; kept slots and blocks are named -/
theorem c_rangeAK {ps : List Tmp} {assign body : Code} {gf : FuncId} {caps : List Value} {xs : List (List Value)} {N : List Seg} {X Z : Type} (ks : List Nat) (bs : List Nat) {Ek : Env} {Mk F : List Seg} (hk : kept E ks [] = some Ek) [hb : KeepC bs M Mk]
    (MI : List Seg → X → List Seg) (p : Nat → X → Prop) (MZ : List Seg → Z → List Seg) (pz : Code → Z → Prop) {Y : Type} (EA : Env → List Value → Y → Env) (MA : List Value → Y → List Seg) (x0 : X) (h0 : p 0 x0)
    [hM : TakesC (MI Mk x0) M F]
    (hg : val E x = some (.func (.func gf) #[] caps.toArray)) (eg : ∀ args w, (callFunc gf args).run P w = .ok (.enter gf args) w) (hit : Iter P gf caps xs (Pts N))
    (hS : ∀ k y w, p k y → St σ.w0 σ.B0 σ.R (MI Mk y) w → Pts N w) (hps : ∀ vs ∈ xs, vs.length = ps.length) (hn : (ps.all fun t => Nat.blt t n) = true)
    (assigned : ∀ (l k : Nat) (y : X) (vs : List Value) (w : World), p k y → xs[k]? = some vs →
      J n [] (paramsEnv ps vs E) ⟨w, [], []⟩ [] (CI (some l) P assign (Exit.then (fun a w' => ∃ q, Has n [] (EA Ek vs q) a ∧ St w [] [] (MA vs q) w') (fun _ _ _ => False))))
    (round : ∀ (l k : Nat) (y : X) (vs : List Value) (q : Y) (w : World), p k y → xs[k]? = some vs →
      J n [] (EA Ek vs q) ⟨w, dom (MA vs q ++ MI Mk y), σ.R⟩ (MA vs q ++ MI Mk y) (CI (some l) P body (roundK (p (k + 1)) (MI Mk) pz (MZ Mk) w (dom (MA vs q ++ MI Mk y)))))
    (done : ∀ (b : Nat) (y : X), p xs.length y → J n (mark b :: D) E σ ([(b, .deferred (some []))] :: MI Mk y) (Q .normal))
    (stop : ∀ (b : Nat) (c : Code) (z : Z), pz c z → J n (mark b :: D) E σ ([(b, .deferred (some []))] :: MZ Mk z) (CI none P c Q)) :
    J n D E σ M ((Code.rangeFunc x ps.toArray assign body).wp P Q) :=
  c_rangeA (MI Mk) p (MZ Mk) pz (EA Ek) MA x0 h0 hg eg hit hS hps hn assigned round done stop
/-- what the assignments of a round leave -/
theorem k_assignedA {Y : Type} {EA : Y → Env} {MA : Y → List Seg} {w0 : World} {R F : List Seg} (q : Y) (h : sub E (EA q)) [hM : TakesC (MA q) M F] : J n [] E ⟨w0, [], R⟩ M (fun a w' => ∃ q, Has n [] (EA q) a ∧ St w0 [] [] (MA q) w') :=
  fun a w hA hS => ⟨q, hA.weak _ h, (hS.take hM.takes).noR⟩
end
end Go.V
