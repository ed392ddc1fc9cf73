/- Regions that draw their order: what only computes or reads is taken first; what changes something comes one by one. -/
import Derived.Test.YtjoniieoaokimaaGreatVMem
set_option linter.unusedVariables false
set_option linter.unusedSimpArgs false
set_option linter.unusedSectionVars false
set_option autoImplicit true
set_option relaxedAutoImplicit true
namespace Go.V
section
variable {P : Program} {ops : Array Oper} {Q : Exit → Act → World → Prop} {K : Act → World → Prop} {n : Nat} {D : List Deferred} {E : Env} {σ : Bs} {M M' : List Seg}

/-- w' is w with some blocks more -/
def Ext (w w' : World) : Prop := St w [] [] [] w'
theorem Ext.refl (w : World) : Ext w w := St.init0 (by intro p hp; simp at hp)
theorem Ext.trans {a b c : World} (h : Ext a b) (k : Ext b c) : Ext a c := by
  have := St.quiet h k
  simpa [Ext] using this
theorem Ext.st {w0 B0 R M w w'} (h : Ext w w') (hS : St w0 B0 R M w) : St w0 B0 R M w' := by simpa using hS.quiet h
theorem Ext.drew (w : World) : Ext w w.drew := St.drew (Ext.refl w)

/-- 'wpAny', and each operation below number m keeps S; new blocks do no harm. -/
def AnyM (P : Program) (ops : Array Oper) (Q : Exit → Act → World → Prop) (m : Nat) (S : World → Prop) : Nat → Array Bool → Act → World → Prop
  | 0, listed, a, w => Region.ready .any ops listed = [] ∧ Q .normal a w
  | fuel + 1, listed, a, w =>
    (Region.ready .any ops listed = [] → Q .normal a w) ∧
    ∀ i ∈ Region.ready .any ops listed, wpOp P ops Q i (fun a' w' => (i < m → S w → S w') ∧ ∀ w'', Ext w' w'' → AnyM P ops Q m S fuel (listed.setIfInBounds i true) a' w'') a w

theorem any_of : ∀ (m : Nat) (S : World → Prop) (fuel : Nat) (listed : Array Bool) (a : Act) (w : World), AnyM P ops Q m S fuel listed a w → wpAny P .any ops Q fuel listed a w
  | _, _, 0, _, _, _, h => h
  | m, S, fuel + 1, _, _, _, h => ⟨h.1, fun i hi => wpOp_mono (fun a' w' h' => any_of m S fuel _ a' w' (h'.2 w' (Ext.refl w'))) (h.2 i hi)⟩

/-- every operation from m on waits for number i -/
def late (ops : Array Oper) (m i : Nat) : Bool := (List.range ops.size).all fun j => Nat.blt j m || match ops[j]? with
  | some o => o.after.any fun e => Region.binds .any e && e.on == i
  | none => true

/-- One operation 'oj', apart from 'oi': whether what oi leaves is already in its slot makes no difference to it. -/
theorem wpOp_apart {j : Nat} {oi oj : Oper} {v : Value} {Y : Act → Prop} (hj : ops[j]? = some oj) (hap : oi.apart ops oj = true)
    (hsj : ∀ cs b, oj.op ≠ .select cs b) (hQ : ∀ c a w, Q (.panic c) (a.put oi.dst v) w → Q (.panic c) a w)
    (hY : ∀ a a', execOp a'.eval oi = execOp a.eval oi → Region.wanted oi (yielded ops a'.tmps) = Region.wanted oi (yielded ops a.tmps) → Y a → Y a') (hsi : ∀ cs b, oi.op ≠ .select cs b)
    {K : Act → World → Prop} {a : Act} {w : World} (hy : Y a) (h : wpOp P ops Q j K (a.put oi.dst v) w) :
    wpOp P ops Q j (fun a' w' => Y a' ∧ K (a'.put oi.dst v) w') a w := by
  obtain ⟨h1, h2, h3⟩ := Oper.apart_spec hap
  have keep : ∀ (a : Act), Y a → ∀ u, Y (a.put oj.dst u) := fun a hy u =>
    hY _ _ (execOp_put oi hsi a oj.dst u h3) (wanted_put oi a oj.dst u h3) hy
  have keepD : ∀ d, Y { a with defers := d :: a.defers } := fun d => hY a _ rfl rfl hy
  unfold wpOp at *
  simp only [hj] at *
  rw [wanted_put oj a oi.dst v h1] at h
  split
  · rename_i hw
    simp only [hw, if_true] at h
    rcases h with h | ⟨hasks, hlets⟩
    case inr => exact .inr ⟨by unfold Oper.asks at *; rw [execOp_put oj hsj a oi.dst v h1] at hasks; exact hasks, hlets⟩
    refine .inl ?_
    unfold Oper.wp at *
    rw [execOp_put oj hsj a oi.dst v h1] at h
    generalize (execOp a.eval oj).run P w = r at *
    cases r with
    | ok n w' =>
      cases n <;> simp only [Oper.upon] at h ⊢
      case value u => exact ⟨keep a hy u, by rw [← Act.put_comm a v u h2]; exact h⟩
      case skip => exact ⟨keep a hy _, by rw [← Act.put_comm a v undef h2]; exact h⟩
      case defer d =>
        refine ⟨?_, ?_⟩
        · exact hY _ _ (execOp_put oi hsi _ oj.dst undef h3) (wanted_put oi _ oj.dst undef h3) (keepD d)
        · rw [← Act.put_comm _ v undef h2, ← Act.put_defers]
          exact h
      case enter f args =>
        refine Calls.mono h fun e w'' he => ?_
        cases e with
        | returned u => exact ⟨keep a hy u, by rw [← Act.put_comm a v u h2]; exact he⟩
        | panicked c => exact hQ _ _ _ he
        | outgrown => exact he
      case row row args => exact Rows.mono h fun u w'' he => ⟨keep a hy u, by rw [← Act.put_comm a v u h2]; exact he⟩
    | halt x w' =>
      cases x <;> simp only [Oper.upon] at h ⊢
      case panic u => exact hQ _ _ _ h
  · rename_i hw
    simp only [hw] at h
    exact ⟨keep a hy _, by rw [← Act.put_comm a v undef h2]; exact h⟩

/-- an operation that may be taken first: it leaves v, and at most new blocks -/
structure First (P : Program) (ops : Array Oper) (Q : Exit → Act → World → Prop) (S' : World → Prop) (oi : Oper) (v : Value) (Y : Act → Prop) : Prop where
  same : ∀ a a', execOp a'.eval oi = execOp a.eval oi → Region.wanted oi (yielded ops a'.tmps) = Region.wanted oi (yielded ops a.tmps) → Y a → Y a'
  run : ∀ (i : Nat) (K : Act → World → Prop) (a : Act) (w : World), ops[i]? = some oi → Y a → S' w → (∀ w', Ext w w' → K (a.put oi.dst v) w') → wpOp P ops Q i K a w

theorem take_first {i : Nat} {oi : Oper} {v : Value} {m : Nat} {S S' : World → Prop} {Y : Act → Prop} (hi : ops[i]? = some oi) (hsel : ∀ (j : Nat) (o : Oper) cs b, ops[j]? = some o → o.op ≠ .select cs b)
    (hQ : ∀ c a w, Q (.panic c) (a.put oi.dst v) w → Q (.panic c) a w) (hF : First P ops Q S' oi v Y)
    (hSS : ∀ j oj (listed : Array Bool), ops[j]? = some oj → listed.getD i true = false → (∀ e ∈ oj.after, Region.binds .any e = true → listed.getD e.on false = true) → ∀ w w', (j < m → S w → S w') → S' w → S' w')
    (hE : ∀ w w', Ext w w' → S w → S w') (hE' : ∀ w w', Ext w w' → S' w → S' w') :
    ∀ (fuel : Nat) (listed : Array Bool) (a : Act) (w : World),
      (∀ j oj, ops[j]? = some oj → j ≠ i → listed.getD j true = false → (∀ e ∈ oj.after, Region.binds .any e = true → e.on ≠ i) → oi.apart ops oj = true) →
      i ∈ Region.ready .any ops listed → Y a → S' w →
      (∀ w'', Ext w w'' → AnyM P ops Q m S fuel (listed.setIfInBounds i true) (a.put oi.dst v) w'') → AnyM P ops Q m S (fuel + 1) listed a w := by
  intro fuel
  induction fuel with
  | zero =>
    intro listed a w _ hr hy hS' H
    refine ⟨fun h => (by rw [h] at hr; cases hr), fun j hj => ?_⟩
    by_cases hji : j = i
    · subst hji; exact hF.run _ _ a w hi hy hS' fun w' hw' => ⟨fun _ h => hE w w' hw' h, fun w'' hw'' => H w'' (hw'.trans hw'')⟩
    · have := ready_mono hj hji
      rw [(H w (Ext.refl w)).1] at this
      cases this
  | succ fuel ih =>
    intro listed a w hfree hr hy hS' H
    refine ⟨fun h => (by rw [h] at hr; cases hr), fun j hj => ?_⟩
    by_cases hji : j = i
    · subst hji; exact hF.run _ _ a w hi hy hS' fun w' hw' => ⟨fun _ h => hE w w' hw' h, fun w'' hw'' => H w'' (hw'.trans hw'')⟩
    · have h1 := (H w (Ext.refl w)).2 j (ready_mono hj hji)
      obtain ⟨hjun, oj, hoj, hall⟩ := mem_ready.1 hj
      have h0 := (mem_ready.1 hr).1
      have hnot : ∀ e ∈ oj.after, Region.binds .any e = true → e.on ≠ i := fun e he hb heq => by
        have h1 := hall e he hb
        rw [heq] at h1
        rcases Nat.lt_or_ge i listed.size with h' | h'
        · simp [h'] at h0 h1; rw [h0] at h1; cases h1
        · simp [Array.getElem?_eq_none h'] at h1
      have h2 := wpOp_apart hoj (hfree j oj hoj hji hjun hnot) (fun cs b => hsel j oj cs b hoj) hQ hF.same (fun cs b => hsel i oi cs b hi) hy h1
      have hfree' : ∀ k ok, ops[k]? = some ok → k ≠ i → (listed.setIfInBounds j true).getD k true = false →
          (∀ e ∈ ok.after, Region.binds .any e = true → e.on ≠ i) → oi.apart ops ok = true := fun k ok hk hki hun hno => by
        refine hfree k ok hk hki ?_ hno
        by_cases hjk : j = k
        · subst hjk; exact hjun
        · rw [getD_set_ne true hjk] at hun; exact hun
      refine wpOp_mono (fun a' w' h3 => ⟨h3.2.1, fun w'' hw'' => ih (listed.setIfInBounds j true) a' w'' hfree' (ready_mono hr (Ne.symm hji)) h3.1 (hE' _ _ hw'' (hSS j oj listed hoj h0 hall w w' h3.2.1 hS')) fun w3 hw3 => ?_⟩) h2
      rw [Array.setIfInBounds_comm _ _ hji]
      exact h3.2.2 w3 (hw''.trans hw3)

theorem first_yields {S' : World → Prop} {oi : Oper} {v : Value} : First P ops Q S' oi v (YieldsIf P ops S' oi v) :=
  ⟨fun _ _ he hw h => h.of_same he hw, fun _ _ _ w hi hy hS h => hy.wpOp hi hS (h w (Ext.refl w))⟩
/-- a call that comes to v, and new blocks -/
def CallsTo (P : Program) (ops : Array Oper) (S' : World → Prop) (o : Oper) (v : Value) (a : Act) : Prop :=
  Region.wanted o (yielded ops a.tmps) = true ∧ ∃ f vs, (∀ w, (execOp a.eval o).run P w = .ok (.enter f vs) w) ∧ ∀ w, S' w → Calls P f vs w (Ret fun u w' => u = v ∧ Ext w w')
theorem first_calls {S' : World → Prop} {oi : Oper} {v : Value} : First P ops Q S' oi v (CallsTo P ops S' oi v) := by
  refine ⟨fun a a' he hw ⟨h1, f, vs, h2, h3⟩ => ⟨by rw [hw]; exact h1, f, vs, by rw [he]; exact h2, h3⟩, ?_⟩
  intro i K a w hi ⟨h1, f, vs, h2, h3⟩ hS h
  unfold wpOp
  simp only [hi, h1, if_true, Oper.wp, h2 w, Oper.upon_enter]
  refine .inl ((h3 w hS).mono ?_)
  rintro e w' ⟨u, rfl, rfl, hw'⟩
  exact h w' hw'

theorem late_spec {m i j : Nat} {oj : Oper} {listed : Array Bool} (hl : late ops m i = true) (hj : ops[j]? = some oj) (h0 : listed.getD i true = false)
    (hall : ∀ e ∈ oj.after, Region.binds .any e = true → listed.getD e.on false = true) : j < m := by
  rcases Nat.lt_or_ge j m with h | h
  · exact h
  · exfalso
    simp only [late, List.all_eq_true, List.mem_range] at hl
    have h1 := hl j (Array.getElem?_eq_some_iff.1 hj).1
    have hnb : Nat.blt j m = false := by
      cases hb : Nat.blt j m with
      | false => rfl
      | true => rw [Nat.blt_eq] at hb; omega
    rw [hnb] at h1
    simp only [hj, Bool.false_or] at h1
    obtain ⟨e, he, hb⟩ := Array.any_eq_true'.1 h1
    simp only [Bool.and_eq_true, beq_iff_eq] at hb
    have h2 := hall e he hb.1
    rw [hb.2] at h2
    rcases Nat.lt_or_ge i listed.size with h' | h'
    · simp [h'] at h0 h2; rw [h0] at h2; cases h2
    · simp [Array.getElem?_eq_none h'] at h2

/-- the panics that a post bears don't look at the slots -/
class PF (Q : Exit → Act → World → Prop) : Prop where
  pf : ∀ c a d v w, Q (.panic c) (Act.put a d v) w → Q (.panic c) a w
instance pf_body {P : Program} {fn : Func} {R : Ending → World → Prop} : PF (bodyPost P fn R) := ⟨fun _ _ d _ _ h => by
  cases d <;> exact h⟩
instance pf_then {Q : Exit → Act → World → Prop} {X : Act → World → Prop} [h : PF Q] : PF (Exit.then X Q) := ⟨h.pf⟩
instance pf_block {Q : Exit → Act → World → Prop} {i : Nat} [h : PF Q] : PF (Exit.inBlock i Q) := ⟨h.pf⟩

/-- which have come: the bits of k -/
def arr (sz k : Nat) : Array Bool := ((List.range sz).map fun i => k.testBit i).toArray
/-- the frame of a region's walk -/
abbrev G (P : Program) (ops : Array Oper) (Q : Exit → Act → World → Prop) (m : Nat) (S : World → Prop) (sz fuel k : Nat) : Act → World → Prop := AnyM P ops Q m S fuel (arr sz k)

theorem arr_zero (sz : Nat) : arr sz 0 = Array.replicate sz false := by
  apply Array.ext
  · simp [arr]
  · intro i h1 h2; simp [arr]

theorem d_region {id : Nat} {l : List Oper} (m : Nat) (S : World → Prop) {sz : Nat} (hm : P.follows .mixedOrders = true) (hf : l.length = sz)
    (h : J n D E σ M (G P l.toArray Q m S sz sz 0)) : J n D E σ M ((Code.region id l.toArray true).wp P Q) := by
  intro a w hA hS
  refine wp_region_any hm (any_of m S _ _ _ _ ?_)
  have := h a w.drew hA hS.drew
  subst hf
  rw [G, arr_zero] at this
  simpa using this
/-- S: what is there when the region begins -/
theorem d_reg {id : Nat} {l : List Oper} (m : Nat) {sz : Nat} (hm : P.follows .mixedOrders = true) (hf : l.length = sz)
    (h : J n D E σ M (G P l.toArray Q m (Pts (σ.R ++ M)) sz sz 0)) : J n D E σ M ((Code.region id l.toArray true).wp P Q) := d_region m _ hm hf h

class SubM (M M' : List Seg) : Prop where
  sub : ∀ p ∈ M.flatten, p ∈ M'.flatten
instance (priority := 2000) subM_refl {M : List Seg} : SubM M M := ⟨fun _ h => h⟩
instance subM_cons {M M' : List Seg} {S : Seg} [h : SubM M M'] : SubM M (S :: M') := ⟨fun p hp => by simp only [List.flatten_cons, List.mem_append]; exact .inr (h.sub p hp)⟩
instance subM_app {M M' L : List Seg} [h : SubM M M'] : SubM M (L ++ M') := ⟨fun p hp => by rw [List.flatten_append, List.mem_append]; exact .inr (h.sub p hp)⟩
theorem hss {N : List Seg} [h : SubM N M] : ∀ w, St σ.w0 σ.B0 σ.R M w → Pts (σ.R ++ N) w := fun w hS p hp => by
  rw [List.flatten_append, List.mem_append] at hp
  exact hp.elim (hS.rdw p) (fun hp => hS.own p (h.sub p hp))

theorem yielded_of {j d : Nat} {c : Bool} {a : Act} (hA : Has n D E a) (hj : ((ops[j]?).bind (·.dst)) = some d) (hb : look E d = some (.bool c)) : yielded ops a.tmps j = some c := by
  have h2 := hA.look d _ hb
  have hlt : d < a.tmps.size := by
    rcases Nat.lt_or_ge d a.tmps.size with h' | h'
    · exact h'
    · simp [undef, h'] at h2
  simp only [yielded, hj, Option.bind_some]
  simp only [Array.getD_eq_getD_getElem?, Array.getElem?_eq_getElem hlt, Option.getD_some] at h2 ⊢
  rw [h2]

/-- the side conditions of a take -/
structure Tk (ops : Array Oper) (sz k i k' : Nat) : Prop where
  sel : Region.noSelect ops = true
  free : Region.free .any ops (arr sz k) i = true
  ready : (Region.ready .any ops (arr sz k)).contains i = true
  next : (arr sz k).setIfInBounds i true = arr sz k'
def tkB (ops : Array Oper) (sz k i k' : Nat) : Bool :=
  Region.noSelect ops && Region.free .any ops (arr sz k) i && (Region.ready .any ops (arr sz k)).contains i && decide ((arr sz k).setIfInBounds i true = arr sz k')
theorem Tk.of {ops : Array Oper} {sz k i k' : Nat} (h : tkB ops sz k i k' = true) : Tk ops sz k i k' := by
  simp only [tkB, Bool.and_eq_true, decide_eq_true_eq] at h
  exact ⟨h.1.1.1, h.1.1.2, h.1.2, h.2⟩

theorem ext_pts {N : List Seg} {w w' : World} (h : Ext w w') (hN : Pts N w) : Pts N w' := fun p hp => by
  have h1 := hN p hp
  rw [h.keep p.1 (lt_of_get h1) (by simp)]
  exact h1
/-- what survives new blocks -/
class ES (S : World → Prop) : Prop where
  es : ∀ w w', Ext w w' → S w → S w'
instance es_pts {N : List Seg} : ES (Pts N) := ⟨fun _ _ h hN => ext_pts h hN⟩
instance es_true : ES (fun _ => True) := ⟨fun _ _ _ _ => trivial⟩

theorem d_take {i t : Nat} {op : Op} {ty pos after g v m S S' sz fuel k k'} {Y : Act → Prop} (hi : ops[i]? = some ⟨some t, op, ty, pos, after, g⟩) (hpf : PF Q) (ht : Tk ops sz k i k') (hF : First P ops Q S' ⟨some t, op, ty, pos, after, g⟩ v Y) (hE : ES S) (hE' : ES S')
    (hSS' : ∀ j oj (listed : Array Bool), ops[j]? = some oj → listed.getD i true = false → (∀ e ∈ oj.after, Region.binds .any e = true → listed.getD e.on false = true) → ∀ w w', (j < m → S w → S w') → S' w → S' w')
    (hy : ∀ a w, Has n D E a → St σ.w0 σ.B0 σ.R M w → Y a) (hS' : ∀ w, St σ.w0 σ.B0 σ.R M w → S' w) (hn : Nat.blt t n = true)
    (h : J n D ((t, v) :: E) σ M (G P ops Q m S sz fuel k')) : J n D E σ M (G P ops Q m S sz (fuel + 1) k) := by
  intro a w hA hS
  refine take_first (S' := S') hi (Region.noSelect_spec ht.sel) (fun c a w h => hpf.pf c a _ v w h) hF hSS' hE.es hE'.es fuel _ a w (Region.free_spec hi ht.free) (by simpa using ht.ready) (hy a w hA hS) (hS' w hS) fun w'' hw'' => ?_
  have := h (a.put (some t) v) w'' (hA.put t v hn) (hw''.st hS)
  rw [G, ← ht.next] at this
  exact this

/-- what only computes: taken first -/
theorem d_y {i t : Nat} {op : Op} {ty pos after v m S sz fuel k k'} (hi : ops[i]? = some ⟨some t, op, ty, pos, after, none⟩) [hpf : PF Q] [hE : ES S] (ht : tkB ops sz k i k' = true)
    (hy : Yl P (fun _ => True) E op v) (hn : Nat.blt t n = true) (h : J n D ((t, v) :: E) σ M (G P ops Q m S sz fuel k')) : J n D E σ M (G P ops Q m S sz (fuel + 1) k) :=
  d_take (S' := fun _ => True) hi hpf (.of ht) first_yields hE es_true (fun _ _ _ _ _ _ _ _ _ _ => trivial) (fun a w hA hS => .inl ⟨by simp [Region.wanted], fun w _ => hy _ _ _ _ _ a.eval (fun x u hx => hA.eval hx) w trivial⟩) (fun _ _ => trivial) hn h
/-- what reads: taken first, where S tells -/
theorem d_s {i t : Nat} {op : Op} {ty pos after v m S sz fuel k k'} (hi : ops[i]? = some ⟨some t, op, ty, pos, after, none⟩) [hpf : PF Q] [hE : ES S] (ht : tkB ops sz k i k' = true)
    (hla : late ops m i = true) (hy : Yl P S E op v) (hSS : ∀ w, St σ.w0 σ.B0 σ.R M w → S w) (hn : Nat.blt t n = true) (h : J n D ((t, v) :: E) σ M (G P ops Q m S sz fuel k')) : J n D E σ M (G P ops Q m S sz (fuel + 1) k) :=
  d_take (S' := S) hi hpf (.of ht) first_yields hE hE (fun j oj listed hj h0 hall w w' hk hw => hk (late_spec hla hj h0 hall) hw) (fun a w hA hS => .inl ⟨by simp [Region.wanted], fun w hw => hy _ _ _ _ _ a.eval (fun x u hx => hA.eval hx) w hw⟩) hSS hn h
/-- an operation under a guard that does not hold: taken first -/
theorem d_n {i t j d : Nat} {b c : Bool} {op : Op} {ty pos after m S sz fuel k k'} (hi : ops[i]? = some ⟨some t, op, ty, pos, after, some (j, b)⟩) [hpf : PF Q] [hE : ES S] (ht : tkB ops sz k i k' = true)
    (hj : ((ops[j]?).bind (·.dst)) = some d) (hb : look E d = some (.bool c)) (hne : (c == b) = false) (hn : Nat.blt t n = true) (h : J n D ((t, undef) :: E) σ M (G P ops Q m S sz fuel k')) : J n D E σ M (G P ops Q m S sz (fuel + 1) k) :=
  d_take (S' := fun _ => True) hi hpf (.of ht) first_yields hE es_true (fun _ _ _ _ _ _ _ _ _ _ => trivial) (fun a w hA hS => .inr ⟨by simp only [Region.wanted, yielded_of hA hj hb]; cases b <;> cases c <;> simp_all, rfl⟩) (fun _ _ => trivial) hn h
/-- a guard that holds -/
theorem d_gy {i t j d : Nat} {b : Bool} {op : Op} {ty pos after v m S sz fuel k k'} (hi : ops[i]? = some ⟨some t, op, ty, pos, after, some (j, b)⟩) [hpf : PF Q] [hE : ES S] (ht : tkB ops sz k i k' = true)
    (hj : ((ops[j]?).bind (·.dst)) = some d) (hb : look E d = some (.bool b))
    (hy : Yl P (fun _ => True) E op v) (hn : Nat.blt t n = true) (h : J n D ((t, v) :: E) σ M (G P ops Q m S sz fuel k')) : J n D E σ M (G P ops Q m S sz (fuel + 1) k) :=
  d_take (S' := fun _ => True) hi hpf (.of ht) first_yields hE es_true (fun _ _ _ _ _ _ _ _ _ _ => trivial) (fun a w hA hS => .inl ⟨by simp [Region.wanted, yielded_of hA hj hb], fun w _ => hy _ _ _ _ _ a.eval (fun x u hx => hA.eval hx) w trivial⟩) (fun _ _ => trivial) hn h
theorem d_gs {i t j d : Nat} {b : Bool} {op : Op} {ty pos after v m S sz fuel k k'} (hi : ops[i]? = some ⟨some t, op, ty, pos, after, some (j, b)⟩) [hpf : PF Q] [hE : ES S] (ht : tkB ops sz k i k' = true)
    (hj : ((ops[j]?).bind (·.dst)) = some d) (hb : look E d = some (.bool b))
    (hla : late ops m i = true) (hy : Yl P S E op v) (hSS : ∀ w, St σ.w0 σ.B0 σ.R M w → S w) (hn : Nat.blt t n = true) (h : J n D ((t, v) :: E) σ M (G P ops Q m S sz fuel k')) : J n D E σ M (G P ops Q m S sz (fuel + 1) k) :=
  d_take (S' := S) hi hpf (.of ht) first_yields hE hE (fun j oj listed hj h0 hall w w' hk hw => hk (late_spec hla hj h0 hall) hw) (fun a w hA hS => .inl ⟨by simp [Region.wanted, yielded_of hA hj hb], fun w hw => hy _ _ _ _ _ a.eval (fun x u hx => hA.eval hx) w hw⟩) hSS hn h

/-- a call that only computes: taken first -/
theorem d_c {i t : Nat} {f : FuncId} {xs : List Operand} {vs : List Value} {tys : Array TypeId} {ty pos after v m S sz fuel k k'} (hi : ops[i]? = some ⟨some t, .call ⟨.value (.func f), xs.toArray, tys⟩, ty, pos, after, none⟩) [hpf : PF Q] [hE : ES S] (ht : tkB ops sz k i k' = true)
    (hf : ∀ args w, (callFunc f args).run P w = .ok (.enter f args) w) (hxs : vals E xs = some vs) (hc : Pure P f vs v) (hn : Nat.blt t n = true) (h : J n D ((t, v) :: E) σ M (G P ops Q m S sz fuel k')) : J n D E σ M (G P ops Q m S sz (fuel + 1) k) :=
  d_take (S' := fun _ => True) hi hpf (.of ht) first_calls hE es_true (fun _ _ _ _ _ _ _ _ _ _ => trivial) (fun a w hA hS => ⟨by simp [Region.wanted], f, vs.toArray, fun w => by
    have hargs : xs.toArray.map a.eval = vs.toArray := by rw [List.map_toArray, vals_map hA xs vs hxs]
    have h0 : a.eval (.func f) = .func (.func f) #[] #[] := rfl
    simp only [execOp, resolve, h0, Deferred.ofValue, hargs, Sem.run_bind, Result.andThen, pure, Sem.run, invoke, hf]
    simp [hf], fun w _ => hc w⟩) (fun _ _ => trivial) hn h
/-- .. under a guard that holds -/
theorem d_gc {i t j d : Nat} {b : Bool} {f : FuncId} {xs : List Operand} {vs : List Value} {tys : Array TypeId} {ty pos after v m S sz fuel k k'} (hi : ops[i]? = some ⟨some t, .call ⟨.value (.func f), xs.toArray, tys⟩, ty, pos, after, some (j, b)⟩) [hpf : PF Q] [hE : ES S] (ht : tkB ops sz k i k' = true)
    (hj : ((ops[j]?).bind (·.dst)) = some d) (hb : look E d = some (.bool b))
    (hf : ∀ args w, (callFunc f args).run P w = .ok (.enter f args) w) (hxs : vals E xs = some vs) (hc : Pure P f vs v) (hn : Nat.blt t n = true) (h : J n D ((t, v) :: E) σ M (G P ops Q m S sz fuel k')) : J n D E σ M (G P ops Q m S sz (fuel + 1) k) :=
  d_take (S' := fun _ => True) hi hpf (.of ht) first_calls hE es_true (fun _ _ _ _ _ _ _ _ _ _ => trivial) (fun a w hA hS => ⟨by simp [Region.wanted, yielded_of hA hj hb], f, vs.toArray, fun w => by
    have hargs : xs.toArray.map a.eval = vs.toArray := by rw [List.map_toArray, vals_map hA xs vs hxs]
    have h0 : a.eval (.func f) = .func (.func f) #[] #[] := rfl
    simp only [execOp, resolve, h0, Deferred.ofValue, hargs, Sem.run_bind, Result.andThen, pure, Sem.run, invoke, hf]
    simp [hf], fun w _ => hc w⟩) (fun _ _ => trivial) hn h

/-- behind an operation S holds -/
def Keep (i m : Nat) (S : World → Prop) (K : Act → World → Prop) : Act → World → Prop := fun a' w' => (i < m → S w') ∧ ∀ w'', Ext w' w'' → K a' w''
theorem d_keep {i m S} (hSS : ∀ w, St σ.w0 σ.B0 σ.R M w → S w) (h : J n D E σ M K) : J n D E σ M (Keep i m S K) := fun a w hA hS => ⟨fun _ => hSS w hS, fun w'' hw'' => h a w'' hA (hw''.st hS)⟩
/-- from number m on S is asked no more -/
theorem d_past {i m S} (hi : Nat.ble m i = true) (h : J n D E σ M K) : J n D E σ M (Keep i m S K) := fun a w hA hS => ⟨fun h' => by rw [Nat.ble_eq] at hi; omega, fun w'' hw'' => h a w'' hA (hw''.st hS)⟩
theorem wpOp_op1 {i : Nat} {o : Oper} {a : Act} {w : World} (hi : ops[i]? = some o) (h : Op1 P ops Q o K a w) : wpOp P ops Q i K a w := by
  unfold wpOp
  simp only [hi]
  exact h
def oneB (ops : Array Oper) (sz k i k' : Nat) : Bool := (Region.ready .any ops (arr sz k) == [i]) && decide ((arr sz k).setIfInBounds i true = arr sz k')
/-- one operation alone may come: it comes. -/
theorem d_e {i : Nat} {o : Oper} {m S sz fuel k k'} (hi : ops[i]? = some o) (hr : oneB ops sz k i k' = true)
    (h : J n D E σ M (Op1 P ops Q o (Keep i m S (G P ops Q m S sz fuel k')))) : J n D E σ M (G P ops Q m S sz (fuel + 1) k) := by
  intro a w hA hS
  simp only [oneB, Bool.and_eq_true, beq_iff_eq, decide_eq_true_eq] at hr
  obtain ⟨hr, hl⟩ := hr
  refine ⟨fun h0 => (by rw [hr] at h0; cases h0), fun j hj => ?_⟩
  rw [hr] at hj
  simp at hj
  subst hj
  refine wpOp_mono ?_ (wpOp_op1 hi (h a w hA hS))
  intro a' w' h'
  refine ⟨fun him _ => h'.1 him, ?_⟩
  intro w'' hw''
  have := h'.2 w'' hw''
  rw [G, ← hl] at this
  exact this
def twoB (ops : Array Oper) (sz k i j k1 k2 : Nat) : Bool := (Region.ready .any ops (arr sz k) == [i, j]) && decide ((arr sz k).setIfInBounds i true = arr sz k1) && decide ((arr sz k).setIfInBounds j true = arr sz k2)
/-- one of two may come -/
theorem d_e2 {i j : Nat} {o o' : Oper} {m S sz fuel k k1 k2} (hi : ops[i]? = some o) (hj : ops[j]? = some o') (hr : twoB ops sz k i j k1 k2 = true)
    (h : J n D E σ M (Op1 P ops Q o (Keep i m S (G P ops Q m S sz fuel k1)))) (h' : J n D E σ M (Op1 P ops Q o' (Keep j m S (G P ops Q m S sz fuel k2)))) : J n D E σ M (G P ops Q m S sz (fuel + 1) k) := by
  intro a w hA hS
  simp only [twoB, Bool.and_eq_true, beq_iff_eq, decide_eq_true_eq] at hr
  obtain ⟨⟨hr, hl⟩, hl'⟩ := hr
  refine ⟨fun h0 => (by rw [hr] at h0; cases h0), fun q hq => ?_⟩
  rw [hr] at hq
  simp at hq
  rcases hq with rfl | rfl
  · refine wpOp_mono ?_ (wpOp_op1 hi (h a w hA hS))
    intro a' w' h'
    refine ⟨fun him _ => h'.1 him, ?_⟩
    intro w'' hw''
    have := h'.2 w'' hw''
    rw [G, ← hl] at this
    exact this
  · refine wpOp_mono ?_ (wpOp_op1 hj (h' a w hA hS))
    intro a' w' h'
    refine ⟨fun him _ => h'.1 him, ?_⟩
    intro w'' hw''
    have := h'.2 w'' hw''
    rw [G, ← hl'] at this
    exact this
theorem d_end {m S sz fuel k} (hr : (Region.ready .any ops (arr sz k) == []) = true) (h : J n D E σ M (Q .normal)) : J n D E σ M (G P ops Q m S sz fuel k) := by
  intro a w hA hS
  rw [beq_iff_eq] at hr
  cases fuel with
  | zero => exact ⟨hr, h a w hA hS⟩
  | succ f => exact ⟨fun _ => h a w hA hS, fun j hj => by rw [hr] at hj; cases hj⟩

theorem has_swap {s t : Nat} {u v : Value} {a : Act} (hne : Nat.beq s t = false) (h : Has n D ((s, u) :: (t, v) :: E) a) : Has n D ((t, v) :: (s, u) :: E) a := by
  refine ⟨h.defers, h.size, fun q x hq => h.look q x ?_⟩
  simp only [look] at hq ⊢
  cases h1 : Nat.beq t q with
  | true =>
    have : t = q := Nat.eq_of_beq_eq_true h1
    subst this
    rw [h1] at hq
    simp only [hne]
    simpa using hq
  | false =>
    rw [h1] at hq
    simpa using hq
theorem j_swap {s t : Nat} {u v : Value} {A B : Seg} (hne : Nat.beq s t = false) (h : J n D ((s, u) :: (t, v) :: E) σ (A :: B :: M) K) : J n D ((t, v) :: (s, u) :: E) σ (B :: A :: M) K := fun a w hA hS =>
  h a w (has_swap (by cases hb : Nat.beq t s with | false => rfl | true => rw [Nat.eq_of_beq_eq_true hb] at hne; simp at hne) hA)
    (hS.perm (by simp only [List.flatten_cons, ← List.append_assoc]; exact List.Perm.append_right _ List.perm_append_comm))
/-- two new variables, in either order -/
theorem d_alloc2 {i j ti tj Ti Tj : Nat} {tyi tyj posi posj afi afj zi zj psi psj m S sz fuel k k1 k2 k3} (hi : ops[i]? = some ⟨some ti, .alloc Ti, tyi, posi, afi, none⟩) (hj : ops[j]? = some ⟨some tj, .alloc Tj, tyj, posj, afj, none⟩)
    (hr : twoB ops sz k i j k1 k2 = true) (h1 : oneB ops sz k1 j k3 = true) (h2 : oneB ops sz k2 i k3 = true)
    (hzi : ∀ w, (zeroValue Ti).run P w = .ok zi w) (hpi : zi.cells = (flat psi).toArray) (hti : Nat.blt ti n = true)
    (hzj : ∀ w, (zeroValue Tj).run P w = .ok zj w) (hpj : zj.cells = (flat psj).toArray) (htj : Nat.blt tj n = true) (hne : Nat.beq tj ti = false) (hSS : ∀ w, St σ.w0 σ.B0 σ.R M w → S w)
    (h : ∀ bi bj, J n D ((tj, .pointer (some ⟨bj, 0, none⟩)) :: (ti, .pointer (some ⟨bi, 0, none⟩)) :: E) σ ([(bj, obj Tj psj)] :: [(bi, obj Ti psi)] :: M) (G P ops Q m S sz fuel k3)) :
    J n D E σ M (G P ops Q m S sz (fuel + 1 + 1) k) :=
  d_e2 hi hj hr
    (o_alloc hzi hpi hti fun bi => d_keep (fun w hw => hSS w hw.drop1) (d_e hj h1 (o_alloc hzj hpj htj fun bj => d_keep (fun w hw => hSS w hw.drop1.drop1) (h bi bj))))
    (o_alloc hzj hpj htj fun bj => d_keep (fun w hw => hSS w hw.drop1) (d_e hi h2 (o_alloc hzi hpi hti fun bi => d_keep (fun w hw => hSS w hw.drop1.drop1) (j_swap hne (h bi bj)))))
end
end Go.V
