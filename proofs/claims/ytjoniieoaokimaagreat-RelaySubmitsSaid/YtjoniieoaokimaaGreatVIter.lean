/- Ranges over functions: rounds, iterators, marks. -/
import Derived.Test.YtjoniieoaokimaaGreatVBld
import Derived.RangeFuncRecord
import Derived.TacticsIn
set_option linter.unusedVariables false
set_option linter.unusedSimpArgs false
set_option linter.unusedSectionVars false
set_option autoImplicit true
set_option relaxedAutoImplicit true
namespace Go.V
section
variable {P : Program} {ops : Array Oper} {Q : Exit → Act → World → Prop} {K : Act → World → Prop} {n : Nat} {D : List Deferred} {E : Env} {σ : Bs} {M M' N : List Seg} {o : Oper} {rest : List Oper}
variable {ty : TypeId} {pos : String} {after : Array Edge} {x y z : Operand} {S : World → Prop}

/-! ### posts that let nothing out -/
class NL (Q : Exit → Act → World → Prop) : Prop where
  nl : ¬ LetsOut Q
instance nl_body {fn : Func} {R : Value → World → Prop} : NL (bodyPost P fn (Ret R)) := ⟨fun ⟨_, _, h⟩ => by obtain ⟨v, hv, _⟩ := h; cases hv⟩
instance nl_then {Q : Exit → Act → World → Prop} {X : Act → World → Prop} [h : NL Q] : NL (Exit.then X Q) := ⟨fun ⟨a, w, hq⟩ => h.nl ⟨a, w, hq⟩⟩
instance nl_block {Q : Exit → Act → World → Prop} {i : Nat} [h : NL Q] : NL (Exit.inBlock i Q) := ⟨fun ⟨a, w, hq⟩ => h.nl ⟨a, w, hq⟩⟩
instance nl_round {l : Nat} {R : Ending → World → Prop} : NL (roundPost P l R) := ⟨fun ⟨_, _, h⟩ => h⟩
instance nl_false : NL (fun _ _ _ => False) := ⟨fun ⟨_, _, h⟩ => h⟩
instance pf_round {l : Nat} {R : Ending → World → Prop} : PF (roundPost P l R) := ⟨fun _ _ _ _ _ h => h⟩

/-! ### a function's way out, past marks -/
def mark (b : Nat) : Deferred := { target := .collected b, args := #[] }
/-- what is left to be done when the body has been left by a return -/
def LM (P : Program) (fn : Func) (R : Ending → World → Prop) (a : Act) (w : World) : Prop := LeavesInM Fence.wide 0 P fn a.tmps R a.defers .returning w
def postM (P : Program) (fn : Func) (R : Ending → World → Prop) : Exit → Act → World → Prop
  | .normal, a, w | .ret, a, w => LM P fn R a w
  | _, _, _ => False
instance nl_postM {fn : Func} {R : Ending → World → Prop} : NL (postM P fn R) := ⟨fun ⟨_, _, h⟩ => h⟩
instance pf_postM {fn : Func} {R : Ending → World → Prop} : PF (postM P fn R) := ⟨fun _ _ _ _ _ h => h⟩

theorem enterM {f : FuncId} {fn : Func} {c : Code} {args : List Value} {w : World} {R : Ending → World → Prop} {n : Nat}
    (hf : P.funcs[f]? = some fn) (hb : fn.body = some c) (hn : fn.ntmps = n) (hargs : Nat.ble args.length n = true)
    (h : ∀ a, Has n [] (argsEnv 0 args) a → c.wp P (postM P fn R) a w) : Calls P f args.toArray w R := by
  have hle : args.length ≤ n := by simpa using hargs
  refine callsIn_wide.1 (callsIn_of_wp_marks (F := Fence.wide) (n := 0) hf hb trivial (wpIn_wide.2 (wp_mono (h _ ⟨rfl, by simp [hn]; omega, ?_⟩) ?_)))
  · intro t v ht
    obtain ⟨_, h2⟩ := look_argsEnv args 0 t v ht
    simp only [Nat.sub_zero] at h2
    have hlt : t < args.length := by
      rcases Nat.lt_or_ge t args.length with h | h
      · exact h
      · simp [List.getElem?_eq_none h] at h2
    have : (args.toArray ++ Array.replicate (fn.ntmps - args.toArray.size) undef)[t]? = some v := by
      rw [Array.getElem?_append_left (by simpa using hlt)]
      simpa using h2
    rw [Array.getD_eq_getD_getElem?, this]; rfl
  · intro e a' w' hq
    cases e with
    | normal => exact hq
    | ret => exact hq
    | exit _ => exact hq.elim
    | goto _ => exact hq.elim
    | panic _ => exact hq.elim
    | outgrown => exact hq.elim
theorem beginM_ {f : FuncId} {fn : Func} {c : Code} {args : List Value} {w : World} {R : Ending → World → Prop} {n : Nat} {Rd M : List Seg}
    (hf : P.funcs[f]? = some fn) (hb : fn.body = some c) (hn : fn.ntmps = n) (hargs : Nat.ble args.length n = true) (hS : St w (dom M) Rd M w)
    (h : J n [] (argsEnv 0 args) ⟨w, dom M, Rd⟩ M (c.wp P (postM P fn R))) : Calls P f args.toArray w R :=
  enterM hf hb hn hargs fun a hA => h a w hA hS
theorem beginM0 {f : FuncId} {fn : Func} {c : Code} {args : List Value} {w : World} {R : Ending → World → Prop} {n : Nat}
    (hf : P.funcs[f]? = some fn) (hb : fn.body = some c) (hn : fn.ntmps = n) (hargs : Nat.ble args.length n = true)
    (h : J n [] (argsEnv 0 args) ⟨w, [], []⟩ [] (c.wp P (postM P fn R))) : Calls P f args.toArray w R :=
  enterM hf hb hn hargs fun a hA => h a w hA (St.init0 (by intro p hp; simp at hp))
theorem beginMR {f : FuncId} {fn : Func} {c : Code} {args : List Value} {w : World} {R : Ending → World → Prop} {n : Nat} {Rd : List Seg}
    (hf : P.funcs[f]? = some fn) (hb : fn.body = some c) (hn : fn.ntmps = n) (hargs : Nat.ble args.length n = true) (hR : Pts Rd w)
    (h : J n [] (argsEnv 0 args) ⟨w, [], Rd⟩ [] (c.wp P (postM P fn R))) : Calls P f args.toArray w R :=
  enterM hf hb hn hargs fun a hA => h a w hA (St.init0 hR)

theorem putObj_st {w0 B0 R M M' w b o o'} (h : St w0 B0 R M w) (hu : Upd b o o' M M') : St w0 B0 R M' (w.putObj b o') :=
  h.upd hu rfl rfl rfl (by simp) (World.putObj_heap_same (lt_of_get (h.own _ hu.mem.1))) (fun _ hk => World.putObj_heap_other hk)

theorem c_mark {fn : Func} {R : Ending → World → Prop} {b i : Nat} [hu : Pos b (.deferred (some [])) M i] (hs : setSeg M i [(b, .deferred none)] [] = some M')
    (h : J n D E σ M' (LM P fn R)) : J n (mark b :: D) E σ M (LM P fn R) := by
  intro a w hA hS
  have hup := pos_upd (ob' := .deferred none) hu hs
  simp only [LM]
  rw [hA.defers]
  refine ⟨by simp, .inl ⟨b, w.putObj b (.deferred none), rfl, run_takeDeferred (hS.own _ hup.mem.1), ?_⟩⟩
  exact h { a with defers := D } _ ⟨rfl, hA.size, hA.look⟩ (putObj_st hS hup)
theorem lm_of {fn : Func} {R : Ending → World → Prop} (h : J n [] E σ M (bodyPost P fn R .ret)) : J n [] E σ M (LM P fn R) := by
  intro a w hA hS
  obtain ⟨hd, v, h1, h2⟩ := h a w hA hS
  simp only [LM]
  rw [hd]
  exact ⟨v, h1, h2⟩
theorem m_ret {fn : Func} {R : Ending → World → Prop} (h : J n D E σ M (LM P fn R)) : J n D E σ M (postM P fn R .ret) := h
theorem m_end {fn : Func} {R : Ending → World → Prop} (h : J n D E σ M (postM P fn R .ret)) : J n D E σ M (postM P fn R .normal) := h

/-! ### operations within a frame of whatever kind -/
/-- the fence that keeps nobody out, for a frame that is a round's, or none -/
abbrev FW (ro : Option Nat) : Fence := { Fence.wide with round := ro }
abbrev LI (ro : Option Nat) (P : Program) (ops : Array Oper) (Q : Exit → Act → World → Prop) (l : List Oper) : Act → World → Prop := wpListIn (FW ro) 0 P ops Q l
theorem rows_in {ro : Option Nat} {row : String} {args : Array Value} {w : World} {R : Value → World → Prop} (h : Rows P row args w R) : RowsIn (FW ro) 0 P row args w R :=
  fun c cs _ => let ⟨v, w', r, s⟩ := h c cs; ⟨v, w', r, stepsIn_wide.2 s⟩
theorem calls_in {ro : Option Nat} {f : FuncId} {args : Array Value} {w : World} {R : Ending → World → Prop} (h : Calls P f args w R) : CallsIn (FW ro) 0 P f args w R :=
  callsIn_wide (n := 0).2 h
def plainOp (o : Oper) : Bool := match o.op with
  | .defer _ => false
  | _ => true
theorem semAt_plain {ro : Option Nat} {ρ : Operand → Value} (h : plainOp o = true) : o.semAt ro ρ = execOp ρ o :=
  Oper.semAt_eq ro ρ o (fun c hc => by simp [plainOp, hc] at h)

theorem i_op {ro : Option Nat} (hd : plainOp o = true) [hq : NL Q] (h : J n D E σ M (Op1 P ops Q o (LI ro P ops Q rest))) : J n D E σ M (LI ro P ops Q (o :: rest)) := by
  intro a w hA hS
  have h1 := h a w hA hS
  unfold Op1 at h1
  show (if Region.wanted o (yielded ops a.tmps) then o.wpIn (FW ro) 0 P a w (LI ro P ops Q rest) Q else _)
  split
  · rename_i hw
    rw [if_pos hw] at h1
    rcases h1 with h1 | ⟨_, h1⟩
    · refine ⟨fun _ _ => trivial, ?_⟩
      rw [semAt_plain hd]
      simp only [Oper.wp] at h1
      generalize (execOp a.eval o).run P w = r at h1
      cases r with
      | ok nx w' =>
        cases nx <;> simp only [Oper.upon] at h1 <;> first | exact h1.elim | exact h1 | skip
        · exact ⟨fun h => (by simp [Fence.wide] at h), calls_in (h1.mono fun e w'' he => by cases e <;> exact he)⟩
        · exact ⟨fun h => (by simp [Fence.wide] at h), rows_in h1⟩
      | halt hx w' => cases hx <;> simp only [Oper.upon] at h1 <;> first | exact h1.elim | exact h1
    · exact absurd h1 hq.nl
  · rename_i hw
    rw [if_neg hw] at h1
    exact ⟨fun _ _ => trivial, h1⟩
theorem i_nil {ro : Option Nat} (h : J n D E σ M (Q .normal)) : J n D E σ M (LI ro P ops Q []) := h
/-- a region of an ordinary frame, by the other rules -/
theorem c_regionI {id : Nat} {l : List Oper} (h : J n D E σ M (LI none P l.toArray Q l)) : J n D E σ M ((Code.region id l.toArray false).wp P Q) :=
  fun a w hA hS => wpIn_wide.1 (wpIn_region_lit (F := Fence.wide) (n := 0) (h a w hA hS))

section round
variable {ro : Option Nat}
abbrev CI (ro : Option Nat) (P : Program) (c : Code) (Q : Exit → Act → World → Prop) : Act → World → Prop := c.wpIn (FW ro) 0 P Q
theorem i_seq {c d : Code} (h : J n D E σ M (CI ro P c (Exit.then (CI ro P d Q) Q))) : J n D E σ M (CI ro P (Code.seq c d) Q) := fun a w hA hS => wpIn_seq (h a w hA hS)
theorem i_region {id : Nat} {l : List Oper} (h : J n D E σ M (LI ro P l.toArray Q l)) : J n D E σ M (CI ro P (Code.region id l.toArray false) Q) := fun a w hA hS => wpIn_region_lit (h a w hA hS)
theorem i_skip (h : J n D E σ M (Q .normal)) : J n D E σ M (CI ro P Code.skip Q) := fun a w hA hS => wpIn_skip (h a w hA hS)
theorem i_ret (h : J n D E σ M (Q .ret)) : J n D E σ M (CI ro P Code.ret Q) := fun a w hA hS => wpIn_ret (h a w hA hS)
theorem i_exit {i : Nat} (h : J n D E σ M (Q (.exit i))) : J n D E σ M (CI ro P (Code.exit i) Q) := fun a w hA hS => wpIn_exit (h a w hA hS)
theorem i_block {i : Nat} {c : Code} (h : J n D E σ M (CI ro P c (Exit.inBlock i Q))) : J n D E σ M (CI ro P (Code.block i c) Q) := fun a w hA hS => wpIn_block (h a w hA hS)
theorem i_cond {c d : Code} {b : Bool} (hx : val E x = some (.bool b)) (ht : b = true → J n D E σ M (CI ro P c Q)) (hf : b = false → J n D E σ M (CI ro P d Q)) :
    J n D E σ M (CI ro P (Code.cond x c d) Q) := fun a w hA hS => wpIn_cond_split (hA.eval hx) (fun h => ht h a w hA hS) (fun h => hf h a w hA hS)
theorem i_condT {c d : Code} (hx : val E x = some (.bool true)) (ht : J n D E σ M (CI ro P c Q)) : J n D E σ M (CI ro P (Code.cond x c d) Q) := fun a w hA hS => wpIn_cond_true (hA.eval hx) (ht a w hA hS)
theorem i_condF {c d : Code} (hx : val E x = some (.bool false)) (hf : J n D E σ M (CI ro P d Q)) : J n D E σ M (CI ro P (Code.cond x c d) Q) := fun a w hA hS => wpIn_cond_false (hA.eval hx) (hf a w hA hS)
theorem i_if {c d : Code} {p : Prop} [Decidable p] (hx : val E x = some (.bool (decide p))) (ht : p → J n D E σ M (CI ro P c Q)) (hf : ¬ p → J n D E σ M (CI ro P d Q)) :
    J n D E σ M (CI ro P (Code.cond x c d) Q) := i_cond hx (fun h => ht (of_decide_eq_true h)) (fun h => hf (of_decide_eq_false h))
theorem i_ifn {c d : Code} {p : Prop} [Decidable p] (hx : val E x = some (.bool (!decide p))) (ht : ¬ p → J n D E σ M (CI ro P c Q)) (hf : p → J n D E σ M (CI ro P d Q)) :
    J n D E σ M (CI ro P (Code.cond x c d) Q) := i_cond hx (fun h => ht (by simpa using h)) (fun h => hf (by simpa using h))
end round

/-! ### an iterator's side -/
/-- a round with the arguments vs comes to K -/
def RoundOK (P : Program) (l : Nat) (vs : List Value) (w : World) (K : Value → World → Prop) : Prop :=
  ∃ r : Loop, w.heap[l]? = some (.loop r) ∧ vs.length = r.params.size ∧
    RoundIn Fence.wide 0 P l r.fn ((r.params.zip vs.toArray).foldl (fun tmps (t, a) => tmps.setIfInBounds t a) r.tmps) r.assign r.body w (Ret K)
/-- the iterator 'gf', with what it has captured, tells xs, one by one; it needs S, and changes nothing. -/
def Iter (P : Program) (gf : FuncId) (caps : List Value) (xs : List (List Value)) (S : World → Prop) : Prop :=
  ∀ (l : Nat) (I : Nat → World → Prop) (X : World → Prop), (∀ k w, I k w → S w) → (∀ k w w', Ext w w' → I k w → I k w') → (∀ w w', Ext w w' → X w → X w') →
    (∀ k w vs, xs[k]? = some vs → I k w → RoundOK P l vs w fun v w' => (v = .bool true ∧ I (k + 1) w') ∨ (v = .bool false ∧ X w')) →
    ∀ w, I 0 w → Calls P gf (.func (.yield l) #[] #[] :: caps).toArray w (Ret fun _ w' => I xs.length w' ∨ X w')

theorem i_yield {ro : Option Nat} {l t : Nat} {xs : List Operand} {vs : List Value} {tys : Array TypeId} {Kr : Value → World → Prop} (hx : val E x = some (.func (.yield l) #[] #[])) (hxs : vals E xs = some vs) (ht : Nat.blt t n = true)
    (hr : ∀ w, St σ.w0 σ.B0 σ.R M w → RoundOK P l vs w Kr)
    (h : ∀ v w', Kr v w' → ∀ a, Has n D ((t, v) :: E) a → LI ro P ops Q rest a w') :
    J n D E σ M (LI ro P ops Q (⟨some t, .call ⟨.value x, xs.toArray, tys⟩, ty, pos, after, none⟩ :: rest)) := by
  intro a w hA hS
  obtain ⟨r, h1, h2, h3⟩ := hr w hS
  show (if Region.wanted _ (yielded ops a.tmps) then _ else _)
  rw [if_pos (by simp [Region.wanted])]
  refine ⟨fun _ _ => trivial, ?_⟩
  rw [semAt_plain rfl]
  have hargs : xs.toArray.map a.eval = vs.toArray := by rw [List.map_toArray, vals_map hA xs vs hxs]
  have hy := run_yield (P := P) (args := vs.toArray) h1 (by simpa using h2)
  have he : (execOp a.eval ⟨some t, .call ⟨.value x, xs.toArray, tys⟩, ty, pos, after, none⟩).run P w = .ok (.round l r.fn ((r.params.zip vs.toArray).foldl (fun tmps (t, a) => tmps.setIfInBounds t a) r.tmps) r.assign r.body) w := by
    simp only [execOp, resolve, hA.eval hx, Deferred.ofValue, hargs, Sem.run_bind, Result.andThen, pure, Sem.run, invoke]
    simpa using hy
  rw [he]
  refine ⟨fun h => (by simp [Fence.wide] at h), ?_⟩
  refine RoundIn.mono (F := FW ro) (R := Ret Kr) h3 ?_
  rintro e w' ⟨v, rfl, hv⟩
  exact h v w' hv _ (hA.put t v ht)

/-- .. in an iterator's own walk -/
theorem i_yieldI {I : Nat → World → Prop} {X : World → Prop} {Rd : List Seg} {k l t : Nat} {xs : List Operand} {vs : List Value} {tys : Array TypeId} (hx : val E x = some (.func (.yield l) #[] #[])) (hxs : vals E xs = some vs) (ht : Nat.blt t n = true)
    (hI : ∀ w, St σ.w0 σ.B0 σ.R M w → I k w) (hr : ∀ w, I k w → RoundOK P l vs w fun v w' => (v = .bool true ∧ I (k + 1) w') ∨ (v = .bool false ∧ X w')) (hS : ∀ w, I (k + 1) w → Pts Rd w)
    (hT : ∀ w', I (k + 1) w' → J n D ((t, .bool true) :: E) ⟨w', [], Rd⟩ [] (LI none P ops Q rest)) (hF : ∀ w', X w' → J n D ((t, .bool false) :: E) ⟨w', [], []⟩ [] (LI none P ops Q rest)) :
    J n D E σ M (LI none P ops Q (⟨some t, .call ⟨.value x, xs.toArray, tys⟩, ty, pos, after, none⟩ :: rest)) := by
  refine i_yield hx hxs ht (fun w hw => hr w (hI w hw)) ?_
  rintro v w' (⟨rfl, h⟩ | ⟨rfl, h⟩) a hA
  · exact hT w' h a w' hA (St.init0 (hS w' h))
  · exact hF w' h a w' hA (St.init0 (by intro p hp; simp at hp))

/-- a loop that begins afresh with each round: of the world a round knows p alone -/
theorem c_rounds {c : Code} {X : Type} {Rd : List Seg} (EI : X → Env) (p : X → World → Prop) (μ : X → Nat) (x0 : X) (h0 : ∀ w, St σ.w0 σ.B0 σ.R M w → p x0 w) (hp : ∀ x w, p x w → Pts Rd w) (hE : sub E (EI x0))
    (round : ∀ x w, p x w → J n D (EI x) ⟨w, [], Rd⟩ [] (c.wp P (Exit.then (fun a w => ∃ y, p y w ∧ μ y < μ x ∧ Has n D (EI y) a) Q))) : J n D E σ M ((Code.loop c).wp P Q) := by
  intro a w hA hS
  have key : ∀ (m : Nat) (x : X) (a : Act) (w : World), μ x < m → p x w → Has n D (EI x) a → Code.rounds P c Q m a w := by
    intro m
    induction m with
    | zero => intro x a w hm; exact absurd hm (by omega)
    | succ m ih =>
      intro x a w hm hp' hat
      rw [rounds_succ]
      refine Code.wp_mono ?_ (round x w hp' a w hat (St.init0 (hp x w hp')))
      intro e a' w' hq
      cases e with
      | normal => obtain ⟨y, h1, h2, h3⟩ := hq; exact ih y a' w' (by omega) h1 h3
      | exit _ => exact hq
      | goto _ => exact hq
      | ret => exact hq
      | panic _ => exact hq
      | outgrown => exact hq
  exact wp_loop_rounds _ (key (μ x0 + 1) x0 a w (by omega) (h0 w hS) (hA.weak _ hE))
theorem c_rounded {X : Type} {EI : X → Env} {p : X → World → Prop} {μ : X → Nat} {x : X} (y : X) (hp : ∀ w, St σ.w0 σ.B0 σ.R M w → p y w) (hμ : μ y < μ x) (hE : sub E (EI y)) :
    J n D E σ M (fun a w => ∃ y, p y w ∧ μ y < μ x ∧ Has n D (EI y) a) := fun a w hA hS => ⟨y, hp w hS, hμ, hA.weak _ hE⟩

/-! ### the statement -/
def paramsEnv : List Tmp → List Value → Env → Env
  | t :: ts, v :: vs, E => paramsEnv ts vs ((t, v) :: E)
  | _, _, E => E
theorem has_params : ∀ (ps : List Tmp) (vs : List Value) (E : Env) (tmps : Array Value), (∀ t ∈ ps, t < n) → Has n [] E ⟨tmps, []⟩ → Has n [] (paramsEnv ps vs E) ⟨((ps.zip vs).foldl (fun tmps (p : Tmp × Value) => tmps.setIfInBounds p.1 p.2) tmps), []⟩
  | [], _, _, _, _, h => h
  | _ :: _, [], _, _, _, h => h
  | t :: ts, v :: vs, E, tmps, hn, h => by
    have h1 := h.put t v (by rw [Nat.blt_eq]; exact hn t (by simp))
    exact has_params ts vs ((t, v) :: E) _ (fun u hu => hn u (List.mem_cons_of_mem _ hu)) h1

/-- the record of the loop -/
def lrec (fn : FuncId) (tmps : Array Value) (ps : Array Tmp) (assign body : Code) (b : Nat) (s : LoopState) : Obj :=
  .loop { state := s, pending := none, fn, tmps, params := ps, assign, body, defers := b }
theorem St.noR {w0 B0 R M w} (h : St w0 B0 R M w) : St w0 B0 [] M w :=
  ⟨h.os, h.tape, h.output, h.size, h.keep, h.nodup, h.fresh, fun _ hp => (by simp at hp), fun _ hb => (by cases hb), h.own⟩
theorem St.rebase {w0 B0 R M w} (h : St w0 B0 R M w) : St w (dom M) R M w :=
  ⟨rfl, rfl, rfl, Nat.le_refl _, fun _ _ _ => rfl, h.nodup, fun _ hb => .inl hb, h.rdw, fun b hb hm => by
    obtain ⟨p, hp, rfl⟩ := List.mem_map.1 hb
    have h1 := lt_of_get (h.rd p hp)
    rcases h.fresh _ hm with h2 | h2
    · exact h.rdom _ hb h2
    · omega, h.own⟩
/-- how a round's body is left -/
def roundK {X Z : Type} (p : X → Prop) (MI : X → List Seg) (pz : Code → Z → Prop) (MZ : Z → List Seg) (w0 : World) (B : List Nat) : Exit → Act → World → Prop
  | .normal, _, w => ∃ y, p y ∧ St w0 B [] (MI y) w
  | .ret, _, w => ∃ z, pz .ret z ∧ St w0 B [] (MZ z) w
  | .exit i, _, w => ∃ z, pz (.exit i) z ∧ St w0 B [] (MZ z) w
  | _, _, _ => False
instance nl_roundK {X Z : Type} {p : X → Prop} {MI : X → List Seg} {pz : Code → Z → Prop} {MZ : Z → List Seg} {w0 : World} {B : List Nat} : NL (roundK p MI pz MZ w0 B) := ⟨fun ⟨_, _, h⟩ => h⟩
theorem k_normal {X : Type} {p : X → Prop} {MI : X → List Seg} {w0 : World} {B : List Nat} {R : List Seg} (y : X) (hp : p y) {F : List Seg} [hM : TakesC (MI y) M F] :
    J n D E ⟨w0, B, R⟩ M (fun _ w => ∃ y, p y ∧ St w0 B [] (MI y) w) := fun a w hA hS => ⟨y, hp, (hS.take hM.takes).noR⟩

/-- 'for ps := range g { body }'. X: what is there between two rounds (the caller's blocks); Z: what is there when a round has left the loop by a jump. -/
theorem c_range {ps : List Tmp} {assign body : Code} {gf : FuncId} {caps : List Value} {xs : List (List Value)} {S : World → Prop} {X Z : Type} (MI : X → List Seg) (p : Nat → X → Prop) (MZ : Z → List Seg) (pz : Code → Z → Prop) (EA : List Value → Env) (x0 : X) (h0 : p 0 x0) {F : List Seg}
    [hM : TakesC (MI x0) M F]
    (hg : val E x = some (.func (.func gf) #[] caps.toArray)) (eg : ∀ args w, (callFunc gf args).run P w = .ok (.enter gf args) w) (hit : Iter P gf caps xs S)
    (hS : ∀ k y w, p k y → St σ.w0 σ.B0 σ.R (MI y) w → S w) (hps : ∀ vs ∈ xs, vs.length = ps.length) (hn : (ps.all fun t => Nat.blt t n) = true)
    (assigned : ∀ (l k : Nat) (y : X) (vs : List Value) (w : World), p k y → xs[k]? = some vs →
      J n [] (paramsEnv ps vs E) ⟨w, [], []⟩ [] (CI (some l) P assign (Exit.then (fun a w' => Has n [] (EA vs) a ∧ Ext w w') (fun _ _ _ => False))))
    (round : ∀ (l k : Nat) (y : X) (vs : List Value) (w : World), p k y → xs[k]? = some vs →
      J n [] (EA vs) ⟨w, dom (MI y), σ.R⟩ (MI y) (CI (some l) P body (roundK (p (k + 1)) MI pz MZ w (dom (MI y)))))
    (done : ∀ (b : Nat) (y : X), p xs.length y → J n (mark b :: D) E σ ([(b, .deferred (some []))] :: MI y) (Q .normal))
    (stop : ∀ (b : Nat) (c : Code) (z : Z), pz c z → J n (mark b :: D) E σ ([(b, .deferred (some []))] :: MZ z) (CI none P c Q)) :
    J n D E σ M ((Code.rangeFunc x ps.toArray assign body).wp P Q) := by
  intro a w hA hSt
  refine wpIn_wide.1 (wpIn_rangeFunc (F := Fence.wide) (n := 0) fun fn _ => ?_)
  -- the two blocks
  let rec_ : LoopState → Option Code → Loop := fun s j => { state := s, pending := j, fn, tmps := a.tmps, params := ps.toArray, assign, body, defers := w.heap.size }
  have hst0 : St σ.w0 σ.B0 σ.R (MI x0) w := hSt.take hM.takes
  have hst1 : St σ.w0 σ.B0 σ.R ([(w.heap.size + 1, .loop (rec_ .ready none))] :: [(w.heap.size, .deferred (some []))] :: MI x0) ((w.alloc (.deferred (some []))).alloc (.loop (rec_ .ready none))) := by
    have := (hst0.alloc (.deferred (some []))).alloc (.loop (rec_ .ready none))
    simpa using this
  let W1 : World := (w.alloc (.deferred (some []))).alloc (.loop (rec_ .ready none))
  let L := w.heap.size + 1
  let dB := w.heap.size
  let I : Nat → World → Prop := fun k W => ∃ y, p k y ∧ St σ.w0 σ.B0 σ.R ([(L, .loop (rec_ .ready none))] :: [(dB, .deferred (some []))] :: MI y) W
  let Xp : World → Prop := fun W => ∃ c z, pz c z ∧ St σ.w0 σ.B0 σ.R ([(L, .loop (rec_ .done (some c)))] :: [(dB, .deferred (some []))] :: MZ z) W
  refine ⟨L, [{ target := .collected w.heap.size, args := #[] }], W1, { target := .fn (.func gf) caps.toArray, args := #[.func (.yield L) #[] #[]] }, W1, gf, #[.func (.yield L) #[] #[]] ++ caps.toArray, W1, run_enterLoop_outer _ _ _ _ _, ?_, fun _ _ => trivial, ?_, fun h => (by simp [Fence.wide] at h), ?_⟩
  · have := hA.eval hg
    simp only [resolve, this]
    simp [go_sem]
  · simp [invoke, go_sem, eg]
  have hround : ∀ k W vs, xs[k]? = some vs → I k W → RoundOK P L vs W fun v w' => (v = .bool true ∧ I (k + 1) w') ∨ (v = .bool false ∧ Xp w') := by
    rintro k W vs hk ⟨y, hp, hW⟩
    have hl : W.heap[L]? = some (.loop (rec_ .ready none)) := hW.own (L, _) (by simp)
    refine ⟨_, hl, by simpa [rec_] using hps vs (List.mem_of_getElem? hk), roundIn_of_wpIn trivial ?_⟩
    have hA' : Has n [] E ⟨a.tmps, []⟩ := ⟨rfl, hA.size, hA.look⟩
    have hpar := has_params ps vs E a.tmps (fun t ht => by have := List.all_eq_true.1 hn t ht; rwa [Nat.blt_eq] at this) hA'
    have hz : (ps.toArray.zip vs.toArray).foldl (fun tmps (x : Tmp × Value) => match x with | (t, a) => tmps.setIfInBounds t a) a.tmps = (ps.zip vs).foldl (fun tmps (p : Tmp × Value) => tmps.setIfInBounds p.1 p.2) a.tmps := by
      simp [List.zip_toArray]
    have hass := assigned L k y vs W hp hk _ W hpar (St.init0 (by intro p hp; simp at hp))
    rw [← hz] at hass
    refine wpIn_mono hass ?_
    intro e a1 w1 hq
    cases e with
    | normal =>
      obtain ⟨hA1, hExt⟩ := hq
      have hW1 := hExt.st hW
      have hl1 : w1.heap[L]? = some (.loop (rec_ .ready none)) := hW1.own (L, _) (by simp)
      refine ⟨_, run_beginRound hl1 rfl, ?_⟩
      have hW2 : St σ.w0 σ.B0 σ.R ([(L, .loop (rec_ .busy none))] :: [(dB, .deferred (some []))] :: MI y) (w1.putObj L (.loop (rec_ .busy none))) := putObj_st hW1 Upd.one
      have hin : St (w1.putObj L (.loop (rec_ .busy none))) (dom (MI y)) σ.R (MI y) (w1.putObj L (.loop (rec_ .busy none))) := hW2.drop1.drop1.rebase
      refine wpIn_mono (round L k y vs _ hp hk a1 _ hA1 hin) ?_
      have fin : ∀ (jump : Option Code) (N : List Seg) (W3 : World), St (w1.putObj L (.loop (rec_ .busy none))) (dom (MI y)) [] N W3 →
          ∃ W4, (Instr.endRound L jump).run P W3 = .ok (.bool jump.isNone) W4 ∧ St σ.w0 σ.B0 σ.R ([(L, .loop (rec_ (if jump.isNone then .ready else .done) jump))] :: [(dB, .deferred (some []))] :: N) W4 := by
        intro jump N W3 h3
        have h4 : St σ.w0 σ.B0 σ.R (N ++ ([(L, .loop (rec_ .busy none))] :: [(dB, .deferred (some []))] :: [])) W3 :=
          hW2.call (L := MI y) (F := [(L, .loop (rec_ .busy none))] :: [(dB, .deferred (some []))] :: []) (by
            have : ([(L, .loop (rec_ .busy none))] :: [(dB, .deferred (some []))] :: MI y) = ([(L, .loop (rec_ .busy none))] :: [(dB, .deferred (some []))] :: []) ++ MI y := rfl
            rw [this, List.flatten_append, List.flatten_append]
            exact List.perm_append_comm) h3
        have h5 : St σ.w0 σ.B0 σ.R ([(L, .loop (rec_ .busy none))] :: [(dB, .deferred (some []))] :: N) W3 := h4.perm (by
          have : ([(L, .loop (rec_ .busy none))] :: [(dB, .deferred (some []))] :: N) = ([(L, .loop (rec_ .busy none))] :: [(dB, .deferred (some []))] :: []) ++ N := rfl
          rw [this, List.flatten_append, List.flatten_append]
          exact List.perm_append_comm)
        have hl3 : W3.heap[L]? = some (.loop (rec_ .busy none)) := h5.own (L, _) (by simp)
        exact ⟨_, run_endRound jump hl3, putObj_st h5 Upd.one⟩
      intro e a3 w3 hq
      cases e with
      | normal =>
        obtain ⟨y', hp', h3⟩ := hq
        obtain ⟨W4, hr, h4⟩ := fin none _ _ h3
        exact ⟨_, _, hr, _, rfl, .inl ⟨rfl, y', hp', h4⟩⟩
      | ret =>
        obtain ⟨z, hp', h3⟩ := hq
        obtain ⟨W4, hr, h4⟩ := fin (some .ret) _ _ h3
        exact ⟨_, _, hr, _, rfl, .inr ⟨rfl, _, z, hp', h4⟩⟩
      | exit i =>
        obtain ⟨z, hp', h3⟩ := hq
        obtain ⟨W4, hr, h4⟩ := fin (some (.exit i)) _ _ h3
        exact ⟨_, _, hr, _, rfl, .inr ⟨rfl, _, z, hp', h4⟩⟩
      | goto _ => exact hq.elim
      | panic _ => exact hq.elim
      | outgrown => exact hq.elim
    | exit _ => exact hq.elim
    | goto _ => exact hq.elim
    | ret => exact hq.elim
    | panic _ => exact hq.elim
    | outgrown => exact hq.elim
  have hcalls := hit L I Xp (fun k W ⟨y, hp, hW⟩ => hS k y W hp hW.drop1.drop1) (fun k W W' he ⟨y, hp, hW⟩ => ⟨y, hp, he.st hW⟩) (fun W W' he ⟨c, z, hp, hW⟩ => ⟨c, z, hp, he.st hW⟩) hround _ ⟨x0, h0, hst1⟩
  have hargs : #[Value.func (.yield L) #[] #[]] ++ caps.toArray = (.func (.yield L) #[] #[] :: caps).toArray := by simp
  rw [hargs]
  refine CallsIn.mono (callsIn_wide.2 hcalls) ?_
  have hA2 : Has n (mark dB :: D) E { a with defers := [{ target := .collected w.heap.size, args := #[] }] ++ a.defers } := ⟨by simp [hA.defers, mark, dB], hA.size, hA.look⟩
  rintro e W2 ⟨v, rfl, ⟨y, hp, hW⟩ | ⟨c, z, hp, hW⟩⟩
  · have hl : W2.heap[L]? = some (.loop (rec_ .ready none)) := hW.own (L, _) (by simp)
    exact ⟨none, _, run_endLoop hl (by simp [rec_]), done dB y hp _ _ hA2 (putObj_st (o' := .loop (rec_ .exhausted none)) hW Upd.one).drop1⟩
  · have hl : W2.heap[L]? = some (.loop (rec_ .done (some c))) := hW.own (L, _) (by simp)
    exact ⟨some c, _, run_endLoop hl (by simp [rec_]), stop dB c z hp _ _ hA2 (putObj_st (o' := .loop (rec_ .exhausted (some c))) hW Upd.one).drop1⟩
/-- the same; kept slots and blocks are named -/
theorem c_rangeK {ps : List Tmp} {assign body : Code} {gf : FuncId} {caps : List Value} {xs : List (List Value)} {N : List Seg} {X Z : Type} (ks : List Nat) (bs : List Nat) {Ek : Env} {Mk F : List Seg} (hk : kept E ks [] = some Ek) [hb : KeepC bs M Mk]
    (MI : List Seg → X → List Seg) (p : Nat → X → Prop) (MZ : List Seg → Z → List Seg) (pz : Code → Z → Prop) (EA : Env → List Value → Env) (x0 : X) (h0 : p 0 x0)
    [hM : TakesC (MI Mk x0) M F]
    (hg : val E x = some (.func (.func gf) #[] caps.toArray)) (eg : ∀ args w, (callFunc gf args).run P w = .ok (.enter gf args) w) (hit : Iter P gf caps xs (Pts N))
    (hS : ∀ k y w, p k y → St σ.w0 σ.B0 σ.R (MI Mk y) w → Pts N w) (hps : ∀ vs ∈ xs, vs.length = ps.length) (hn : (ps.all fun t => Nat.blt t n) = true)
    (assigned : ∀ (l k : Nat) (y : X) (vs : List Value) (w : World), p k y → xs[k]? = some vs →
      J n [] (paramsEnv ps vs E) ⟨w, [], []⟩ [] (CI (some l) P assign (Exit.then (fun a w' => Has n [] (EA Ek vs) a ∧ Ext w w') (fun _ _ _ => False))))
    (round : ∀ (l k : Nat) (y : X) (vs : List Value) (w : World), p k y → xs[k]? = some vs →
      J n [] (EA Ek vs) ⟨w, dom (MI Mk y), σ.R⟩ (MI Mk y) (CI (some l) P body (roundK (p (k + 1)) (MI Mk) pz (MZ Mk) w (dom (MI Mk y)))))
    (done : ∀ (b : Nat) (y : X), p xs.length y → J n (mark b :: D) E σ ([(b, .deferred (some []))] :: MI Mk y) (Q .normal))
    (stop : ∀ (b : Nat) (c : Code) (z : Z), pz c z → J n (mark b :: D) E σ ([(b, .deferred (some []))] :: MZ Mk z) (CI none P c Q)) :
    J n D E σ M ((Code.rangeFunc x ps.toArray assign body).wp P Q) :=
  c_range (MI Mk) p (MZ Mk) pz (EA Ek) x0 h0 hg eg hit hS hps hn assigned round done stop
theorem ptsM {w0 : World} {B0 : List Nat} {R : List Seg} {w : World} [h : SubM N M] (hS : St w0 B0 R M w) : Pts N w := fun q hq => hS.own q (h.sub q hq)
theorem ptsMR {w0 : World} {B0 : List Nat} {R N' : List Seg} {w : World} [h : SubM N M] (h' : ∀ q ∈ N'.flatten, q ∈ R.flatten) (hS : St w0 B0 R M w) : Pts (N ++ N') w := fun q hq => by
  rw [List.flatten_append, List.mem_append] at hq
  exact hq.elim (fun hq => hS.own q (h.sub q hq)) (fun hq => hS.rdw q (h' q hq))
theorem y_makeFunc {f : Fn} {xs : List Operand} {vs : List Value} (hxs : vals E xs = some vs) : Yl P S E (.makeFunc f #[] xs.toArray) (.func f #[] vs.toArray) := by
  intro dst ty pos after g ρ hρ w hS
  have hargs : ∀ (xs : List Operand) (vs : List Value), vals E xs = some vs → xs.map ρ = vs := by
    intro xs
    induction xs with
    | nil => intro vs h; simp [vals] at h; simp [h]
    | cons x xs ih =>
      intro vs h
      simp only [vals] at h
      cases hx : val E x with
      | none => rw [hx] at h; cases h
      | some u =>
        rw [hx] at h
        cases hxs : vals E xs with
        | none => rw [hxs] at h; cases h
        | some us =>
          rw [hxs] at h
          simp at h
          subst h
          simp [hρ _ _ hx, ih us hxs]
  simp [execOp, Instr.makeFunc, hargs xs vs hxs, pure, Sem.run]
/-- what is left of the record when a round's assignments have been made -/
theorem k_assigned {w0 : World} {R : List Seg} {E' : Env} (h : sub E E') : J n [] E ⟨w0, [], R⟩ M (fun a w' => Has n [] E' a ∧ Ext w0 w') := fun a w hA hS => ⟨hA.weak _ h, hS.none⟩
end
end Go.V
