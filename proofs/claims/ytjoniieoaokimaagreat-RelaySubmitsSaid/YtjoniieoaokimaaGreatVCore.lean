/- A small logic for walks: what is known of the slots (Has), of the heap (St), and one rule for each kind of operation. -/
import Derived.OrdersHeld
import Derived.KernelRfl
import Derived.Tactics
import Derived.Below
set_option linter.unusedVariables false
set_option linter.unusedSimpArgs false
set_option linter.unusedSectionVars false
set_option autoImplicit true
set_option relaxedAutoImplicit true
namespace Go.V
open Go.RowKit (Below)

/-! ## The slots -/
theorem beq_false {d t : Nat} (h : d ≠ t) : Nat.beq d t = false := by
  cases hb : Nat.beq d t with
  | false => rfl
  | true => exact absurd (Nat.eq_of_beq_eq_true hb) h

abbrev Env := List (Nat × Value)
def look : Env → Nat → Option Value
  | [], _ => none
  | (k, v) :: E, t => match Nat.beq k t with
    | true => some v
    | false => look E t
def val (E : Env) : Operand → Option Value
  | .tmp t => look E t
  | .const v => some v
  | .global g => some (.pointer (some ⟨g, 0, none⟩))
  | .func f => some (.func (.func f) #[] #[])

structure Has (n : Nat) (D : List Deferred) (E : Env) (a : Act) : Prop where
  defers : a.defers = D
  size : a.tmps.size = n
  look : ∀ t v, look E t = some v → a.tmps.getD t undef = v

theorem Has.eval {n D E a x v} (h : Has n D E a) (hx : val E x = some v) : a.eval x = v := by
  cases x with
  | tmp t => exact h.look t v hx
  | const c => simp [val] at hx; simp [Act.eval, hx]
  | global g => simp [val] at hx; simp [Act.eval, hx]
  | func f => simp [val] at hx; simp [Act.eval, hx]

theorem Has.put {n D E a} (h : Has n D E a) (d : Nat) (v : Value) (hd : Nat.blt d n = true) : Has n D ((d, v) :: E) (a.put (some d) v) := by
  have hd' : d < n := by simpa [Nat.blt_eq] using hd
  refine ⟨h.defers, by simp [Act.put, h.size], fun t u ht => ?_⟩
  simp only [V.look] at ht
  by_cases hdt : d = t
  · subst hdt
    simp at ht
    subst ht
    have : d < a.tmps.size := h.size ▸ hd'
    simp [Act.put, this]
  · have : Nat.beq d t = false := beq_false hdt
    rw [this] at ht
    have := h.look t u ht
    simp only [Act.put]
    simp only [Array.getD_eq_getD_getElem?] at this ⊢
    rw [Array.getElem?_setIfInBounds_ne hdt]
    exact this

theorem Has.put' {n D E a} (h : Has n D E a) (d : Nat) (v : Value) : Has n D (E.filter (fun p => !Nat.beq p.1 d)) (a.put (some d) v) := by
  refine ⟨h.defers, by simp [Act.put, h.size], fun t u ht => ?_⟩
  by_cases hdt : d = t
  · subst hdt
    exfalso
    have : ∀ E : Env, V.look (E.filter (fun p => !Nat.beq p.1 d)) d = none := by
      intro E
      induction E with
      | nil => rfl
      | cons p E ih =>
        obtain ⟨k, v⟩ := p
        by_cases hk : Nat.beq k d = true
        · simp [List.filter, hk, ih]
        · simp only [Bool.not_eq_true] at hk
          simp [List.filter, hk, V.look, ih]
    rw [this E] at ht
    cases ht
  · have key : ∀ E : Env, V.look (E.filter (fun p => !Nat.beq p.1 d)) t = V.look E t := by
      intro E
      induction E with
      | nil => rfl
      | cons p E ih =>
        obtain ⟨k, v⟩ := p
        by_cases hk : Nat.beq k d = true
        · have hkd : k = d := Nat.eq_of_beq_eq_true hk
          have hkt : Nat.beq k t = false := beq_false (hkd ▸ hdt)
          simp [List.filter, hk, ih, V.look, hkt]
        · simp only [Bool.not_eq_true] at hk
          simp only [List.filter, hk, Bool.not_false, V.look, ih]
    rw [key E] at ht
    have := h.look t u ht
    simp only [Act.put]
    simp only [Array.getD_eq_getD_getElem?] at this ⊢
    rw [Array.getElem?_setIfInBounds_ne hdt]
    exact this

def sub (E : Env) : Env → Prop
  | [] => True
  | (k, v) :: E' => look E k = some v ∧ sub E E'

/-- Forget slots. -/
theorem Has.weak {n D E a} (h : Has n D E a) (E' : Env) (hs : sub E E') : Has n D E' a := by
  refine ⟨h.defers, h.size, ?_⟩
  have key : ∀ E', sub E E' → ∀ t v, V.look E' t = some v → V.look E t = some v := by
    intro E'
    induction E' with
    | nil => intro _ t v hv; cases hv
    | cons p E' ih =>
      obtain ⟨k, u⟩ := p
      intro hs t v hv
      simp only [V.look] at hv
      cases hb : Nat.beq k t with
      | true =>
        rw [hb] at hv
        have : k = t := Nat.eq_of_beq_eq_true hb
        subst this
        simp at hv
        subst hv
        exact hs.1
      | false => rw [hb] at hv; exact ih hs.2 t v hv
  exact fun t v hv => h.look t v (key E' hs t v hv)

def argsEnv : Nat → List Value → Env
  | _, [] => []
  | i, v :: vs => (i, v) :: argsEnv (i + 1) vs

theorem look_argsEnv : ∀ (vs : List Value) (i t : Nat) (v : Value), look (argsEnv i vs) t = some v → i ≤ t ∧ vs[t - i]? = some v
  | [], _, _, _, h => by cases h
  | u :: vs, i, t, v, h => by
    simp only [argsEnv, look] at h
    cases hb : Nat.beq i t with
    | true =>
      rw [hb] at h
      have : i = t := Nat.eq_of_beq_eq_true hb
      subst this
      simp at h
      simp [h]
    | false =>
      rw [hb] at h
      have hne : i ≠ t := Nat.ne_of_beq_eq_false hb
      obtain ⟨h1, h2⟩ := look_argsEnv vs (i + 1) t v h
      refine ⟨by omega, ?_⟩
      have : t - i = (t - (i + 1)) + 1 := by omega
      rw [this, List.getElem?_cons_succ]
      exact h2

theorem enter {P : Program} {f : FuncId} {fn : Func} {c : Code} {args : List Value} {w : World} {R : Ending → World → Prop} {n : Nat}
    (hf : P.funcs[f]? = some fn) (hb : fn.body = some c) (hn : fn.ntmps = n) (hargs : Nat.ble args.length n = true)
    (h : ∀ a, Has n [] (argsEnv 0 args) a → c.wp P (bodyPost P fn R) a w) : Calls P f args.toArray w R := by
  have hle : args.length ≤ n := by simpa using hargs
  refine calls_of_wp hf hb (h _ ⟨rfl, by simp [hn]; omega, ?_⟩)
  intro t v ht
  obtain ⟨_, h2⟩ := look_argsEnv args 0 t v ht
  simp only [Nat.sub_zero] at h2
  have hlt : t < args.length := by
    rcases Nat.lt_or_ge t args.length with h | h
    · exact h
    · simp [List.getElem?_eq_none h] at h2
  have : (args.toArray ++ Array.replicate (fn.ntmps - args.toArray.size) undef)[t]? = some v := by
    rw [Array.getElem?_append_left (by simpa using hlt)]
    simpa using h2
  rw [Array.getD_eq_getD_getElem?, this]; rfl

/-! ## The heap -/
abbrev Ent := Nat × Obj
abbrev Seg := List Ent
/-- all of these blocks hold these objects -/
def Pts (M : List Seg) (w : World) : Prop := ∀ p ∈ M.flatten, w.heap[p.1]? = some p.2
def dom (M : List Seg) : List Nat := M.flatten.map Prod.fst

/-- What is known of the world: since w0 nothing but the blocks B0 has changed; R is to be read, M is owned. -/
structure St (w0 : World) (B0 : List Nat) (R M : List Seg) (w : World) : Prop where
  os : w.os = w0.os
  tape : w.tape = w0.tape
  output : w.output = w0.output
  size : w0.heap.size ≤ w.heap.size
  keep : ∀ k, k < w0.heap.size → k ∉ B0 → w.heap[k]? = w0.heap[k]?
  nodup : (dom M).Nodup
  fresh : ∀ b ∈ dom M, b ∈ B0 ∨ w0.heap.size ≤ b
  rd : Pts R w0
  rdom : ∀ b ∈ dom R, b ∉ B0
  own : Pts M w

theorem lt_of_get {w : World} {b : Nat} {o : Obj} (h : w.heap[b]? = some o) : b < w.heap.size := (Array.getElem?_eq_some_iff.1 h).1

theorem St.rdw {w0 B0 R M w} (h : St w0 B0 R M w) : Pts R w := fun p hp => by
  have h1 := h.rd p hp
  rw [h.keep p.1 (lt_of_get h1) (h.rdom p.1 (List.mem_map.2 ⟨p, hp, rfl⟩))]
  exact h1

theorem St.pts {w0 B0 R M w} (h : St w0 B0 R M w) : Pts (R ++ M) w := fun p hp => by
  rw [List.flatten_append, List.mem_append] at hp
  exact hp.elim (h.rdw p) (h.own p)

theorem St.init {w : World} {R M : List Seg} (hR : Pts R w) (hM : Pts M w) (hd : (dom M).Nodup) (hdis : ∀ b ∈ dom R, b ∉ dom M) : St w (dom M) R M w :=
  ⟨rfl, rfl, rfl, Nat.le_refl _, fun _ _ _ => rfl, hd, fun _ hb => .inl hb, hR, hdis, hM⟩

theorem St.init0 {w : World} {R : List Seg} (hR : Pts R w) : St w [] R [] w :=
  St.init (M := []) hR (fun p hp => by simp at hp) (by simp [dom]) (by simp [dom])

theorem St.below {w0 R M w} (h : St w0 [] R M w) : Below w0.heap.size w0 w := ⟨h.os, h.tape, h.output, h.size, fun k hk => h.keep k hk (by simp)⟩

theorem dom_append (M N : List Seg) : dom (M ++ N) = dom M ++ dom N := by simp [dom]
theorem dom_cons (S : Seg) (N : List Seg) : dom (S :: N) = S.map Prod.fst ++ dom N := by simp [dom]

theorem St.drew {w0 B0 R M w} (h : St w0 B0 R M w) : St w0 B0 R M w.drew :=
  ⟨h.os, h.tape, h.output, h.size, h.keep, h.nodup, h.fresh, h.rd, h.rdom, h.own⟩

theorem St.alloc {w0 B0 R M w} (h : St w0 B0 R M w) (o : Obj) : St w0 B0 R ([(w.heap.size, o)] :: M) (w.alloc o) := by
  have hlt : ∀ b ∈ dom M, b < w.heap.size := fun b hb => by
    obtain ⟨p, hp, rfl⟩ := List.mem_map.1 hb
    exact lt_of_get (h.own p hp)
  refine ⟨h.os, h.tape, h.output, by have := h.size; simp; omega, ?_, ?_, ?_, h.rd, h.rdom, ?_⟩
  · intro k hk hkB
    rw [Below.heap_alloc _ _ _ (by have := h.size; omega)]
    exact h.keep k hk hkB
  · simp only [dom_cons, List.map_cons, List.map_nil, List.cons_append, List.nil_append, List.nodup_cons]
    exact ⟨fun hm => absurd (hlt _ hm) (Nat.lt_irrefl _), h.nodup⟩
  · intro b hb
    simp only [dom_cons, List.map_cons, List.map_nil, List.cons_append, List.nil_append, List.mem_cons] at hb
    rcases hb with rfl | hb
    · exact .inr h.size
    · exact h.fresh b hb
  · intro p hp
    simp only [List.flatten_cons, List.cons_append, List.nil_append, List.mem_cons] at hp
    rcases hp with rfl | hp
    · show (w.heap.push o)[w.heap.size]? = some o
      simp
    · have h1 := h.own p hp
      rw [Below.heap_alloc _ _ _ (lt_of_get h1)]
      exact h1

/-- 'M' holds (b, o) at one place; 'M'' is M with (b, o') there. -/
inductive Upd (b : Nat) (o o' : Obj) : List Seg → List Seg → Prop
  | here {S M} : Upd b o o' (([(b, o)] ++ S) :: M) (([(b, o')] ++ S) :: M)
  | there {S M M'} : Upd b o o' M M' → Upd b o o' (S :: M) (S :: M')
  | at_ {A B M} : Upd b o o' ((A ++ (b, o) :: B) :: M) ((A ++ (b, o') :: B) :: M)

theorem Upd.one {b o o' M} : Upd b o o' ([(b, o)] :: M) ([(b, o')] :: M) := Upd.here (S := [])

theorem Upd.dom {b o o' M M'} (h : Upd b o o' M M') : V.dom M' = V.dom M := by
  induction h with
  | here => simp [V.dom]
  | there _ ih => simp only [dom_cons, ih]
  | at_ => simp [V.dom]

theorem Upd.mem {b o o' M M'} (h : Upd b o o' M M') : (b, o) ∈ M.flatten ∧ (b, o') ∈ M'.flatten := by
  induction h with
  | here => simp
  | there _ ih => simp [ih.1, ih.2]
  | at_ => simp

theorem Upd.old {b o o' M M'} (h : Upd b o o' M M') (hn : (V.dom M).Nodup) : ∀ p ∈ M'.flatten, p = (b, o') ∨ (p ∈ M.flatten ∧ p.1 ≠ b) := by
  induction h with
  | @here S M =>
    intro p hp
    simp only [List.flatten_cons, List.cons_append, List.nil_append, List.mem_cons] at hp ⊢
    rcases hp with rfl | hp
    · exact .inl rfl
    · refine .inr ⟨.inr hp, fun he => ?_⟩
      simp only [V.dom, List.flatten_cons, List.cons_append, List.nil_append, List.map_cons, List.nodup_cons] at hn
      exact hn.1 (List.mem_map.2 ⟨p, hp, he⟩)
  | @there S M M' h ih =>
    intro p hp
    rw [dom_cons, List.nodup_append] at hn
    simp only [List.flatten_cons, List.mem_append] at hp ⊢
    rcases hp with hp | hp
    · refine .inr ⟨.inl hp, fun he => ?_⟩
      exact hn.2.2 p.1 (List.mem_map.2 ⟨p, hp, rfl⟩) b (List.mem_map.2 ⟨_, h.mem.1, rfl⟩) he
    · rcases ih hn.2.1 p hp with h | ⟨h1, h2⟩
      · exact .inl h
      · exact .inr ⟨.inr h1, h2⟩
  | @at_ A B M =>
    intro p hp
    simp only [List.flatten_cons, List.mem_append, List.mem_cons] at hp ⊢
    simp only [V.dom, List.flatten_cons, List.map_append, List.map_cons, List.append_assoc, List.cons_append] at hn
    rw [List.nodup_append] at hn
    obtain ⟨_, h2, h3⟩ := hn
    rw [List.nodup_cons] at h2
    rcases hp with (hp | rfl | hp) | hp
    · exact .inr ⟨.inl (.inl hp), fun he => h3 p.1 (List.mem_map.2 ⟨p, hp, rfl⟩) b (by simp) he⟩
    · exact .inl rfl
    · exact .inr ⟨.inl (.inr (.inr hp)), fun he => h2.1 (by rw [← he]; exact List.mem_append.2 (.inl (List.mem_map.2 ⟨p, hp, rfl⟩)))⟩
    · exact .inr ⟨.inr hp, fun he => h2.1 (by rw [← he]; exact List.mem_append.2 (.inr (List.mem_map.2 ⟨p, hp, rfl⟩)))⟩

theorem dom_lt {M : List Seg} {w : World} (h : Pts M w) {b : Nat} (hb : b ∈ dom M) : b < w.heap.size := by
  obtain ⟨p, hp, rfl⟩ := List.mem_map.1 hb
  exact lt_of_get (h p hp)

/-- An owned block gets another content. -/
theorem St.upd {w0 B0 R M M' w w' b o o'} (h : St w0 B0 R M w) (hu : Upd b o o' M M')
    (hos : w'.os = w.os) (htape : w'.tape = w.tape) (hout : w'.output = w.output) (hsz : w'.heap.size = w.heap.size)
    (hb : w'.heap[b]? = some o') (hk : ∀ k, k ≠ b → w'.heap[k]? = w.heap[k]?) : St w0 B0 R M' w' := by
  have hbm : b ∈ dom M := List.mem_map.2 ⟨_, hu.mem.1, rfl⟩
  refine ⟨hos.trans h.os, htape.trans h.tape, hout.trans h.output, by rw [hsz]; exact h.size, ?_, by rw [hu.dom]; exact h.nodup, by rw [hu.dom]; exact h.fresh, h.rd, h.rdom, ?_⟩
  · intro k hk1 hk2
    rw [hk k (fun he => by subst he; rcases h.fresh _ hbm with h' | h' <;> first | exact hk2 h' | omega)]
    exact h.keep k hk1 hk2
  · intro p hp
    rcases hu.old h.nodup p hp with rfl | ⟨h1, h2⟩
    · exact hb
    · rw [hk _ h2]; exact h.own p h1

/-- A call that was told of L alone. -/
theorem St.call {w0 B0 R M w L L' R' F w'} (h : St w0 B0 R M w) (hp : M.flatten.Perm (L ++ F).flatten)
    (hc : St w (dom L) R' L' w') : St w0 B0 R (L' ++ F) w' := by
  have hdM : (dom M).Perm (dom L ++ dom F) := by
    have := hp.map Prod.fst
    rw [List.flatten_append, List.map_append] at this
    exact this
  have hn : (dom L ++ dom F).Nodup := hdM.nodup_iff.1 h.nodup
  have hF : ∀ p ∈ F.flatten, p ∈ M.flatten := fun p hp' => hp.mem_iff.2 (by rw [List.flatten_append]; exact List.mem_append.2 (.inr hp'))
  have hFlt : ∀ b ∈ dom F, b < w.heap.size := fun b hb => by
    obtain ⟨p, hp', rfl⟩ := List.mem_map.1 hb
    exact lt_of_get (h.own p (hF p hp'))
  have hLM : ∀ b ∈ dom L, b ∈ dom M := fun b hb => hdM.mem_iff.2 (List.mem_append.2 (.inl hb))
  have hFM : ∀ b ∈ dom F, b ∈ dom M := fun b hb => hdM.mem_iff.2 (List.mem_append.2 (.inr hb))
  rw [List.nodup_append] at hn
  obtain ⟨_, hnF, hdis⟩ := hn
  refine ⟨hc.os.trans h.os, hc.tape.trans h.tape, hc.output.trans h.output, Nat.le_trans h.size hc.size, ?_, ?_, ?_, h.rd, h.rdom, ?_⟩
  · intro k hk hkB
    rw [hc.keep k (by have := h.size; omega) (fun hkL => by
      rcases h.fresh k (hLM k hkL) with h' | h'
      · exact hkB h'
      · omega)]
    exact h.keep k hk hkB
  · rw [dom_append, List.nodup_append]
    refine ⟨hc.nodup, hnF, fun a ha b hb hab => ?_⟩
    subst hab
    rcases hc.fresh a ha with h' | h'
    · exact hdis a h' a hb rfl
    · have := hFlt a hb; omega
  · intro b hb
    rw [dom_append, List.mem_append] at hb
    rcases hb with hb | hb
    · rcases hc.fresh b hb with h' | h'
      · exact h.fresh b (hLM b h')
      · exact .inr (by have := h.size; omega)
    · exact h.fresh b (hFM b hb)
  · intro p hp'
    rw [List.flatten_append, List.mem_append] at hp'
    rcases hp' with hp' | hp'
    · exact hc.own p hp'
    · have h1 := h.own p (hF p hp')
      rw [hc.keep p.1 (lt_of_get h1) (fun hL => hdis p.1 hL p.1 (List.mem_map.2 ⟨p, hp', rfl⟩) rfl)]
      exact h1

/-- A call that owns nothing that was there. -/
theorem St.quiet {w0 B0 R M w L' R' w'} (h : St w0 B0 R M w) (hc : St w [] R' L' w') : St w0 B0 R (L' ++ M) w' :=
  h.call (L := []) (F := M) (by simp) (by simpa [dom] using hc)

theorem St.drop {w0 B0 R M M' w} (h : St w0 B0 R M w) (hs : M'.flatten.Sublist M.flatten) : St w0 B0 R M' w :=
  ⟨h.os, h.tape, h.output, h.size, h.keep, (hs.map Prod.fst).nodup h.nodup, fun b hb => h.fresh b ((hs.map Prod.fst).subset hb), h.rd, h.rdom, fun p hp => h.own p (hs.subset hp)⟩

theorem St.perm {w0 B0 R M M' w} (h : St w0 B0 R M w) (hp : M.flatten.Perm M'.flatten) : St w0 B0 R M' w :=
  ⟨h.os, h.tape, h.output, h.size, h.keep, (hp.map Prod.fst).nodup_iff.1 h.nodup, fun b hb => h.fresh b ((hp.map Prod.fst).mem_iff.2 hb), h.rd, h.rdom, fun p hp' => h.own p (hp.mem_iff.2 hp')⟩

theorem St.drop1 {w0 B0 R S M w} (h : St w0 B0 R (S :: M) w) : St w0 B0 R M w := h.drop (by simp)

end Go.V
