/- Walks and laws of this claim, part Lw3. -/
import Derived.Test.YtjoniieoaokimaaGreatVLw2
set_option linter.unusedVariables false
set_option linter.unusedSimpArgs false
set_option linter.unusedSectionVars false
set_option autoImplicit true
set_option relaxedAutoImplicit true
set_option maxRecDepth 100000
set_option maxHeartbeats 1000000
namespace Go.Proofs
open V
theorem o_new5 {P : Program} {ops : Array Oper} {Q : Exit → Act → World → Prop} {K : Act → World → Prop} {n : Nat} {D : List Deferred} {E : Env} {σ : Bs} {M : List Seg} {ty : TypeId} {pos : String} {after : Array Edge} {f : FuncId} {xs : List Operand} {vs : List Value} {tys : Array TypeId} {t : Nat} {X : Type} {v : X → Value} {A B C A' B' : X → Seg} {p : X → Prop}
    (hf : ∀ args w, (callFunc f args).run P w = .ok (.enter f args) w) (hxs : vals E xs = some vs) (ht : Nat.blt t n = true)
    (hc : ∀ w, Pts (σ.R ++ M) w → Quiet P f vs (fun u L => ∃ x, p x ∧ u = v x ∧ L = [A x, B x, C x, A' x, B' x]) w)
    (h : ∀ x, p x → J n D ((t, v x) :: E) σ (A x :: B x :: C x :: A' x :: B' x :: M) K) :
    J n D E σ M (Op1 P ops Q ⟨some t, .call ⟨.value (.func f), xs.toArray, tys⟩, ty, pos, after, none⟩ K) := o_newL (L' := fun x => [A x, B x, C x, A' x, B' x]) hf hxs ht hc h
theorem o_own5 {P : Program} {ops : Array Oper} {Q : Exit → Act → World → Prop} {K : Act → World → Prop} {n : Nat} {D : List Deferred} {E : Env} {σ : Bs} {M : List Seg} {ty : TypeId} {pos : String} {after : Array Edge} {f : FuncId} {xs : List Operand} {vs : List Value} {tys : Array TypeId} {t : Nat} (L : List Seg) {F : List Seg} {X : Type} {v : X → Value} {A B C A' B' : X → Seg} {p : X → Prop}
    (hf : ∀ args w, (callFunc f args).run P w = .ok (.enter f args) w) (hxs : vals E xs = some vs) (ht : Nat.blt t n = true) [hL : TakesC L M F]
    (hc : ∀ w, St w (dom L) (σ.R ++ F) L w → Calls P f vs.toArray w (Ret fun u w' => ∃ x, p x ∧ u = v x ∧ St w (dom L) [] [A x, B x, C x, A' x, B' x] w'))
    (h : ∀ x, p x → J n D ((t, v x) :: E) σ (A x :: B x :: C x :: A' x :: B' x :: F) K) :
    J n D E σ M (Op1 P ops Q ⟨some t, .call ⟨.value (.func f), xs.toArray, tys⟩, ty, pos, after, none⟩ K) := o_own L (L' := fun x => [A x, B x, C x, A' x, B' x]) hf hxs ht hc h
/-! ### the example -/
def rL : Rl := rulesR 3 99#32 1
def sL : TS := newS rL
def hL : Hd := madeH sL rL.first ⟨0, 0, 10, 0#8⟩
theorem live_all : (checkR rL, sL.err hL, (toldT sL hL).best, (toldT sL hL).height, confT (sL.add hL) (hashH hL), confT (sL.add hL) (hashH rL.first), rL.confirm) = (0, 0, true, 1, 13, 0, 2) := by kernel_rfl
theorem tup7 {A B C D E F G : Type} {a a' : A} {b b' : B} {c c' : C} {d d' : D} {e e' : E} {f f' : F} {g g' : G} (h : (a, b, c, d, e, f, g) = (a', b', c', d', e', f', g')) : a = a' ∧ b = b' ∧ c = c' ∧ d = d' ∧ e = e' ∧ f = f' ∧ g = g' := by
  cases h; exact ⟨rfl, rfl, rfl, rfl, rfl, rfl, rfl⟩
theorem live_1 : checkR rL = 0 := (tup7 live_all).1
theorem live_2 : sL.err hL = 0 := (tup7 live_all).2.1
theorem live_3 : (toldT sL hL).best = true := (tup7 live_all).2.2.1
theorem live_4 : (toldT sL hL).height = 1 := (tup7 live_all).2.2.2.1
theorem live_5 : confT (sL.add hL) (hashH hL) = 13 := (tup7 live_all).2.2.2.2.1
theorem live_6 : confT (sL.add hL) (hashH rL.first) = 0 := (tup7 live_all).2.2.2.2.2.1
theorem live_7 : rL.confirm = 2 := (tup7 live_all).2.2.2.2.2.2
