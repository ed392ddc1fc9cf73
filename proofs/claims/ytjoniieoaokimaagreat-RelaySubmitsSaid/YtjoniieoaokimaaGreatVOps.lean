/- The rules of the walk: one for each kind of operation. -/
import Derived.Test.YtjoniieoaokimaaGreatVParts
set_option linter.unusedVariables false
set_option linter.unusedSimpArgs false
set_option linter.unusedSectionVars false
set_option autoImplicit true
set_option relaxedAutoImplicit true
namespace Go.V
open Go.RowKit (Below)

structure Bs where
  w0 : World
  B0 : List Nat
  R : List Seg

/-- K holds whatever frame and world meet what is known. -/
def J (n : Nat) (D : List Deferred) (E : Env) (σ : Bs) (M : List Seg) (K : Act → World → Prop) : Prop :=
  ∀ a w, Has n D E a → St σ.w0 σ.B0 σ.R M w → K a w

section
variable {P : Program} {ops : Array Oper} {Q : Exit → Act → World → Prop} {K : Act → World → Prop} {n : Nat} {D : List Deferred} {E : Env} {σ : Bs} {M : List Seg} {o : Oper} {rest : List Oper}

/-- One operation, whatever comes behind it. -/
def Op1 (P : Program) (ops : Array Oper) (Q : Exit → Act → World → Prop) (o : Oper) (K : Act → World → Prop) (a : Act) (w : World) : Prop :=
  if Region.wanted o (yielded ops a.tmps) then o.wp P a w K Q ∨ (o.asks P a w ∧ LetsOut Q) else K (a.put o.dst undef) w

theorem seqq (h : J n D E σ M (Op1 P ops Q o (wpList P ops Q rest))) : J n D E σ M (wpList P ops Q (o :: rest)) := h

theorem op1_run {a : Act} {w : World} {r : Result Next} (hg : o.guard = none) (hr : (execOp a.eval o).run P w = r) (h : o.upon P a K Q r) : Op1 P ops Q o K a w := by
  unfold Op1
  rw [if_pos (by simp [Region.wanted, hg])]
  left
  simp only [Oper.wp, hr]
  exact h

/-- The guard of an operation. -/
theorem guard_true {i : Nat} {b : Bool} {dst op ty pos after d} (hi : ((ops[i]?).bind (·.dst)) = some d) (hb : look E d = some (.bool b))
    (h : J n D E σ M (Op1 P ops Q ⟨dst, op, ty, pos, after, none⟩ K)) : J n D E σ M (Op1 P ops Q ⟨dst, op, ty, pos, after, some (i, b)⟩ K) := by
  intro a w hA hS
  have h1 := h a w hA hS
  have hy : yielded ops a.tmps i = some b := by
    have h2 := hA.look d _ hb
    have hlt : d < a.tmps.size := by
      rcases Nat.lt_or_ge d a.tmps.size with h' | h'
      · exact h'
      · simp [undef, h'] at h2
    simp only [yielded, hi, Option.bind_some]
    simp only [Array.getD_eq_getD_getElem?, Array.getElem?_eq_getElem hlt, Option.getD_some] at h2 ⊢
    rw [h2]
  unfold Op1 at h1 ⊢
  simp only [Region.wanted, hy, beq_self_eq_true, if_true] at h1 ⊢
  exact h1

theorem guard_false {i : Nat} {b c : Bool} {t op ty pos after d} (hi : ((ops[i]?).bind (·.dst)) = some d) (hb : look E d = some (.bool c)) (hne : (c == b) = false) (ht : Nat.blt t n = true)
    (h : J n D ((t, undef) :: E) σ M K) : J n D E σ M (Op1 P ops Q ⟨some t, op, ty, pos, after, some (i, b)⟩ K) := by
  intro a w hA hS
  have hy : yielded ops a.tmps i = some c := by
    have h2 := hA.look d _ hb
    have hlt : d < a.tmps.size := by
      rcases Nat.lt_or_ge d a.tmps.size with h' | h'
      · exact h'
      · simp [undef, h'] at h2
    simp only [yielded, hi, Option.bind_some]
    simp only [Array.getD_eq_getD_getElem?, Array.getElem?_eq_getElem hlt, Option.getD_some] at h2 ⊢
    rw [h2]
  have hw : Region.wanted ⟨some t, op, ty, pos, after, some (i, b)⟩ (yielded ops a.tmps) = false := by
    simp only [Region.wanted, hy]; cases b <;> cases c <;> simp_all
  unfold Op1
  rw [if_neg (by rw [hw]; simp)]
  exact h _ w (hA.put t undef ht) hS

theorem guard_false_none {i : Nat} {b c : Bool} {op ty pos after d} (hi : ((ops[i]?).bind (·.dst)) = some d) (hb : look E d = some (.bool c)) (hne : (c == b) = false)
    (h : J n D E σ M K) : J n D E σ M (Op1 P ops Q ⟨none, op, ty, pos, after, some (i, b)⟩ K) := by
  intro a w hA hS
  have hy : yielded ops a.tmps i = some c := by
    have h2 := hA.look d _ hb
    have hlt : d < a.tmps.size := by
      rcases Nat.lt_or_ge d a.tmps.size with h' | h'
      · exact h'
      · simp [undef, h'] at h2
    simp only [yielded, hi, Option.bind_some]
    simp only [Array.getD_eq_getD_getElem?, Array.getElem?_eq_getElem hlt, Option.getD_some] at h2 ⊢
    rw [h2]
  have hw : Region.wanted ⟨none, op, ty, pos, after, some (i, b)⟩ (yielded ops a.tmps) = false := by
    simp only [Region.wanted, hy]; cases b <;> cases c <;> simp_all
  unfold Op1
  rw [if_neg (by rw [hw]; simp)]
  exact h a w hA hS

/-! ## Operations that only compute, or read -/
/-- 'op' leaves v, in every world of S, in every frame of which E is known. -/
def Yl (P : Program) (S : World → Prop) (E : Env) (op : Op) (v : Value) : Prop :=
  ∀ (dst : Option Tmp) (ty : TypeId) (pos : String) (after : Array Edge) (g : Option (Nat × Bool)) (ρ : Operand → Value), (∀ x u, val E x = some u → ρ x = u) →
    ∀ w, S w → (execOp ρ ⟨dst, op, ty, pos, after, g⟩).run P w = .ok (.value v) w

theorem o_y {op ty pos after t v} (hy : Yl P (Pts (σ.R ++ M)) E op v) (ht : Nat.blt t n = true) (h : J n D ((t, v) :: E) σ M K) :
    J n D E σ M (Op1 P ops Q ⟨some t, op, ty, pos, after, none⟩ K) := by
  intro a w hA hS
  refine op1_run rfl (hy _ _ _ _ _ a.eval (fun x u hx => hA.eval hx) w hS.pts) ?_
  exact h _ w (hA.put t v ht) hS

theorem o_y0 {op ty pos after v} (hy : Yl P (Pts (σ.R ++ M)) E op v) (h : J n D E σ M K) :
    J n D E σ M (Op1 P ops Q ⟨none, op, ty, pos, after, none⟩ K) := by
  intro a w hA hS
  refine op1_run rfl (hy _ _ _ _ _ a.eval (fun x u hx => hA.eval hx) w hS.pts) ?_
  exact h _ w hA hS

section yl
variable {S : World → Prop} {x y z : Operand}

theorem y_move {v} (hx : val E x = some v) : Yl P S E (.move x) v := by
  intro _ _ _ _ _ ρ hρ w hS
  simp [execOp, hρ _ _ hx, pure, Sem.run]
theorem y_assign {v} (hx : val E x = some v) : Yl P S E (.assign x) v := by
  intro _ _ _ _ _ ρ hρ w hS
  simp [execOp, hρ _ _ hx, pure, Sem.run]
theorem y_pick {b : Bool} {u v} (hx : val E x = some (.bool b)) (hy : val E y = some u) (hz : val E z = some v) : Yl P S E (.pick x y z) (bif b then u else v) := by
  intro _ _ _ _ _ ρ hρ w hS
  cases b <;> simp [execOp, hρ _ _ hx, hρ _ _ hy, hρ _ _ hz, pure, Sem.run, asBool]
theorem y_pick_t {u} (hx : val E x = some (.bool true)) (hy : val E y = some u) : Yl P S E (.pick x y z) u := by
  intro _ _ _ _ _ ρ hρ w hS
  simp [execOp, hρ _ _ hx, hρ _ _ hy, pure, Sem.run, asBool]
theorem y_pick_f {v} (hx : val E x = some (.bool false)) (hz : val E z = some v) : Yl P S E (.pick x y z) v := by
  intro _ _ _ _ _ ρ hρ w hS
  simp [execOp, hρ _ _ hx, hρ _ _ hz, pure, Sem.run, asBool]
theorem y_nilCheck {p} (hx : val E x = some (.pointer (some p))) : Yl P S E (.nilCheck x) (.pointer (some p)) := by
  intro _ _ _ _ _ ρ hρ w hS
  simp [execOp, hρ _ _ hx, pure, Sem.run]
theorem y_extract {vs : List Value} {i v} (hx : val E x = some (.tuple vs.toArray)) (hi : vs[i]? = some v) : Yl P S E (.extract x i) v := by
  intro _ _ _ _ _ ρ hρ w hS
  simp [execOp, hρ _ _ hx, Instr.extract, hi, pure, Sem.run]

/-! ### integers -/
/-- the unsigned kinds -/
inductive UK : IntKind → Nat → Prop
  | u8 : UK .u8 8
  | u16 : UK .u16 16
  | u32 : UK .u32 32
  | u64 : UK .u64 64
def bv (k : IntKind) {m : Nat} (X : BitVec m) : Value := .int k (X.toNat : Int)

theorem UK.wrap {k m} (h : UK k m) (z : Int) : k.wrap z = ((BitVec.ofInt m z).toNat : Int) := by
  cases h <;> simp [IntKind.wrap, IntKind.signed, IntKind.bits, BitVec.toNat_ofInt] <;> omega
theorem UK.bits {k m} (h : UK k m) : k.bits = m := by cases h <;> rfl
theorem UK.wrapNat {k m} (h : UK k m) (X : BitVec m) : k.wrap (X.toNat : Int) = (X.toNat : Int) := by
  rw [h.wrap]; simp
theorem UK.signed {k m} (h : UK k m) : k.signed = false := by cases h <;> rfl

theorem y_bin {op : BinOp} {T U : TypeId} {v} {u u' : Value} (hx : val E x = some u) (hy : val E y = some u')
    (hr : ∀ w, (binOp op T u u').run P w = .ok v w) (hg : op ≠ .eql ∧ op ≠ .neq ∨ (u ≠ .nilIface ∧ ∀ c, u ≠ .agg c)) : Yl P S E (.binOp op T x y U) v := by
  intro _ _ _ _ _ ρ hρ w hS
  have he : ∀ w, (eqGuard op T x y u u').run P w = .ok () w := by
    intro w
    rcases hg with ⟨h1, h2⟩ | ⟨h1, h2⟩
    · cases op <;> simp_all [eqGuard, pure, Sem.run]
    · cases u <;> cases op <;> simp_all [eqGuard, pure, Sem.run]
  simp [execOp, hρ _ _ hx, hρ _ _ hy, he, hr, pure, Sem.run]

theorem ng_int {op : BinOp} {k : IntKind} {a : Int} : op ≠ .eql ∧ op ≠ .neq ∨ (Value.int k a ≠ .nilIface ∧ ∀ c, Value.int k a ≠ .agg c) := .inr ⟨by simp, by simp⟩


theorem ofInt_cast {m : Nat} (X : BitVec m) : BitVec.ofInt m (X.toNat : Int) = X := by simp
theorem ofInt_sub' {m : Nat} (x y : Int) : BitVec.ofInt m (x - y) = BitVec.ofInt m x - BitVec.ofInt m y := by
  rw [Int.sub_eq_add_neg, BitVec.ofInt_add, BitVec.ofInt_neg, BitVec.sub_eq_add_neg]
theorem shl_aux {m : Nat} (X : BitVec m) (s : Nat) : BitVec.ofInt m ((X.toNat : Int) * 2 ^ (min s m)) = X <<< s := by
  apply BitVec.eq_of_toNat_eq
  rw [BitVec.toNat_shiftLeft, Nat.shiftLeft_eq]
  have h1 : ((X.toNat : Int) * 2 ^ (min s m)) = ((X.toNat * 2 ^ (min s m) : Nat) : Int) := by push_cast; rfl
  rw [h1]
  simp only [BitVec.ofInt_natCast, BitVec.toNat_ofNat]
  by_cases h : s ≤ m
  · rw [Nat.min_eq_left h]
  · rw [Nat.min_eq_right (by omega)]
    have : s = m + (s - m) := by omega
    rw [this, Nat.pow_add, ← Nat.mul_assoc, Nat.mul_right_comm, Nat.mul_mod_left, Nat.mul_mod_left]
theorem shr_aux {m : Nat} (X : BitVec m) (s : Nat) : ((X.toNat : Int).fdiv (2 ^ (min s m))) = ((X >>> s).toNat : Int) := by
  rw [BitVec.toNat_ushiftRight, Nat.shiftRight_eq_div_pow]
  have h1 : ((2 : Int) ^ (min s m)) = ((2 ^ (min s m) : Nat) : Int) := by push_cast; rfl
  rw [h1, Int.fdiv_eq_ediv_of_nonneg _ (Int.natCast_nonneg _)]
  have : X.toNat / 2 ^ (min s m) = X.toNat / 2 ^ s := by
    by_cases h : s ≤ m
    · rw [Nat.min_eq_left h]
    · rw [Nat.min_eq_right (by omega), Nat.div_eq_of_lt X.isLt, Nat.div_eq_of_lt (Nat.lt_of_lt_of_le X.isLt (Nat.pow_le_pow_right (by omega) (by omega)))]
  rw [← this]
  exact (Int.natCast_ediv _ _).symm

variable {k : IntKind} {m : Nat} {X Y : BitVec m} {T U : TypeId}
theorem y_addB (hk : UK k m) (hx : val E x = some (bv k X)) (hy : val E y = some (bv k Y)) : Yl P S E (.binOp .add T x y U) (bv k (X + Y)) :=
  y_bin hx hy (fun w => by simp only [binOp, bv, Op.intArith, hk.wrap, BitVec.ofInt_add, ofInt_cast]; simp [pure, Sem.run]) ng_int
theorem y_subB (hk : UK k m) (hx : val E x = some (bv k X)) (hy : val E y = some (bv k Y)) : Yl P S E (.binOp .sub T x y U) (bv k (X - Y)) :=
  y_bin hx hy (fun w => by simp only [binOp, bv, Op.intArith, hk.wrap, ofInt_sub', ofInt_cast]; simp [pure, Sem.run]) ng_int
theorem y_mulB (hk : UK k m) (hx : val E x = some (bv k X)) (hy : val E y = some (bv k Y)) : Yl P S E (.binOp .mul T x y U) (bv k (X * Y)) :=
  y_bin hx hy (fun w => by simp only [binOp, bv, Op.intArith, hk.wrap, BitVec.ofInt_mul, ofInt_cast]; simp [pure, Sem.run]) ng_int
theorem y_quoB (hk : UK k m) (hx : val E x = some (bv k X)) (hy : val E y = some (bv k Y)) (h0 : Y.toNat ≠ 0) : Yl P S E (.binOp .quo T x y U) (bv k (X / Y)) :=
  y_bin hx hy (fun w => by
    have h1 : (Y.toNat : Int) ≠ 0 := by omega
    have h2 : BitVec.ofInt m ((X.toNat : Int).tdiv Y.toNat) = X / Y := by
      rw [Int.tdiv_eq_ediv_of_nonneg (by omega), ← Int.natCast_ediv, BitVec.ofInt_natCast]
      apply BitVec.eq_of_toNat_eq
      rw [BitVec.toNat_ofNat, BitVec.toNat_udiv, Nat.mod_eq_of_lt (Nat.lt_of_le_of_lt (Nat.div_le_self _ _) X.isLt)]
    simp only [binOp, bv, Op.intDiv, hk.wrap, h2, if_neg h1]; simp [pure, Sem.run]) ng_int
theorem y_remB (hx : val E x = some (bv k X)) (hy : val E y = some (bv k Y)) (h0 : Y.toNat ≠ 0) : Yl P S E (.binOp .rem T x y U) (bv k (X % Y)) :=
  y_bin hx hy (fun w => by
    have h1 : (Y.toNat : Int) ≠ 0 := by omega
    have h2 : ((X.toNat : Int).tmod Y.toNat) = ((X % Y).toNat : Int) := by
      rw [Int.tmod_eq_emod_of_nonneg (by omega), BitVec.toNat_umod, Int.natCast_emod]
    simp only [binOp, bv, Op.intDiv, h2, if_neg h1]; simp [pure, Sem.run]) ng_int
theorem bits_cast {k m} (hk : UK k m) (X : BitVec m) : BitVec.ofInt k.bits (X.toNat : Int) = X.cast hk.bits.symm := by cases hk <;> simp [IntKind.bits] <;> rfl
theorem y_andB (hk : UK k m) (hx : val E x = some (bv k X)) (hy : val E y = some (bv k Y)) : Yl P S E (.binOp .and T x y U) (bv k (X &&& Y)) :=
  y_bin hx hy (fun w => by
    have : (BitVec.ofInt k.bits (X.toNat : Int) &&& BitVec.ofInt k.bits (Y.toNat : Int)).toNat = (X &&& Y).toNat := by rw [bits_cast hk, bits_cast hk]; simp
    simp only [binOp, bv, Op.intBits, this, hk.wrapNat]; simp [pure, Sem.run]) ng_int
theorem y_orB (hk : UK k m) (hx : val E x = some (bv k X)) (hy : val E y = some (bv k Y)) : Yl P S E (.binOp .or T x y U) (bv k (X ||| Y)) :=
  y_bin hx hy (fun w => by
    have : (BitVec.ofInt k.bits (X.toNat : Int) ||| BitVec.ofInt k.bits (Y.toNat : Int)).toNat = (X ||| Y).toNat := by rw [bits_cast hk, bits_cast hk]; simp
    simp only [binOp, bv, Op.intBits, this, hk.wrapNat]; simp [pure, Sem.run]) ng_int
theorem y_xorB (hk : UK k m) (hx : val E x = some (bv k X)) (hy : val E y = some (bv k Y)) : Yl P S E (.binOp .xor T x y U) (bv k (X ^^^ Y)) :=
  y_bin hx hy (fun w => by
    have : (BitVec.ofInt k.bits (X.toNat : Int) ^^^ BitVec.ofInt k.bits (Y.toNat : Int)).toNat = (X ^^^ Y).toNat := by rw [bits_cast hk, bits_cast hk]; simp
    simp only [binOp, bv, Op.intBits, this, hk.wrapNat]; simp [pure, Sem.run]) ng_int
theorem y_andNotB (hk : UK k m) (hx : val E x = some (bv k X)) (hy : val E y = some (bv k Y)) : Yl P S E (.binOp .andNot T x y U) (bv k (X &&& ~~~Y)) :=
  y_bin hx hy (fun w => by
    have : (BitVec.ofInt k.bits (X.toNat : Int) &&& ~~~BitVec.ofInt k.bits (Y.toNat : Int)).toNat = (X &&& ~~~Y).toNat := by rw [bits_cast hk, bits_cast hk]; cases hk <;> rfl
    simp only [binOp, bv, Op.intBits, this, hk.wrapNat]; simp [pure, Sem.run]) ng_int
theorem y_shlB (hk : UK k m) {yk : IntKind} {s : Nat} (hx : val E x = some (bv k X)) (hy : val E y = some (.int yk (s : Int))) : Yl P S E (.binOp .shl T x y U) (bv k (X <<< s)) :=
  y_bin hx hy (fun w => by
    have h0 : ¬ ((s : Int) < 0) := by omega
    simp only [binOp, bv, Op.shift, if_neg h0, Int.toNat_natCast, hk.bits, hk.wrap, shl_aux]; simp [pure, Sem.run]) ng_int
theorem y_shrB (hk : UK k m) {yk : IntKind} {s : Nat} (hx : val E x = some (bv k X)) (hy : val E y = some (.int yk (s : Int))) : Yl P S E (.binOp .shr T x y U) (bv k (X >>> s)) :=
  y_bin hx hy (fun w => by
    have h0 : ¬ ((s : Int) < 0) := by omega
    simp only [binOp, bv, Op.shift, if_neg h0, Int.toNat_natCast, hk.bits, shr_aux]; simp [pure, Sem.run]) ng_int
theorem y_eqlB (hx : val E x = some (bv k X)) (hy : val E y = some (bv k Y)) : Yl P S E (.binOp .eql T x y U) (.bool (decide (X = Y))) :=
  y_bin hx hy (fun w => by
    have : ((X.toNat : Int) == (Y.toNat : Int)) = decide (X = Y) := by
      rw [Bool.eq_iff_iff]; simp only [beq_iff_eq, decide_eq_true_eq]; exact ⟨fun h => BitVec.eq_of_toNat_eq (by omega), fun h => by rw [h]⟩
    simp [binOp, bv, Op.intCmp, this, pure, Sem.run]) ng_int
theorem y_neqB (hx : val E x = some (bv k X)) (hy : val E y = some (bv k Y)) : Yl P S E (.binOp .neq T x y U) (.bool (!decide (X = Y))) :=
  y_bin hx hy (fun w => by
    have : ((X.toNat : Int) == (Y.toNat : Int)) = decide (X = Y) := by
      rw [Bool.eq_iff_iff]; simp only [beq_iff_eq, decide_eq_true_eq]; exact ⟨fun h => BitVec.eq_of_toNat_eq (by omega), fun h => by rw [h]⟩
    simp [binOp, bv, Op.intCmp, bne, this, pure, Sem.run]) ng_int
theorem y_lssB (hx : val E x = some (bv k X)) (hy : val E y = some (bv k Y)) : Yl P S E (.binOp .lss T x y U) (.bool (decide (X.toNat < Y.toNat))) :=
  y_bin hx hy (fun w => by simp [binOp, bv, Op.intCmp, pure, Sem.run]) ng_int
theorem y_leqB (hx : val E x = some (bv k X)) (hy : val E y = some (bv k Y)) : Yl P S E (.binOp .leq T x y U) (.bool (decide (X.toNat ≤ Y.toNat))) :=
  y_bin hx hy (fun w => by simp [binOp, bv, Op.intCmp, pure, Sem.run]) ng_int
theorem y_gtrB (hx : val E x = some (bv k X)) (hy : val E y = some (bv k Y)) : Yl P S E (.binOp .gtr T x y U) (.bool (decide (Y.toNat < X.toNat))) :=
  y_bin hx hy (fun w => by simp [binOp, bv, Op.intCmp, pure, Sem.run]) ng_int
theorem y_geqB (hx : val E x = some (bv k X)) (hy : val E y = some (bv k Y)) : Yl P S E (.binOp .geq T x y U) (.bool (decide (Y.toNat ≤ X.toNat))) :=
  y_bin hx hy (fun w => by simp [binOp, bv, Op.intCmp, pure, Sem.run]) ng_int
theorem y_un {op : UnOp} {T : TypeId} {u v} (hx : val E x = some u) (hr : ∀ w, (Op.unary op u).run P w = .ok v w) : Yl P S E (.unOp op T x) v := by
  intro _ _ _ _ _ ρ hρ w hS
  simp [execOp, hρ _ _ hx, hr, pure, Sem.run]
theorem y_notB (hk : UK k m) (hx : val E x = some (bv k X)) : Yl P S E (.unOp .xor T x) (bv k (~~~X)) :=
  y_un hx (fun w => by
    have : (BitVec.ofInt k.bits k.max ^^^ BitVec.ofInt k.bits (X.toNat : Int)).toNat = (~~~X).toNat := by
      cases hk <;> (rw [show IntKind.max _ = _ from rfl]; simp only [IntKind.bits, IntKind.max, IntKind.signed]; congr 1; rw [ofInt_cast]; exact BitVec.allOnes_xor)
    simp only [Op.unary, bv, Op.intBits, hk.signed, Bool.false_eq_true, if_false, this, hk.wrapNat]; simp [pure, Sem.run])
theorem y_negB (hk : UK k m) (hx : val E x = some (bv k X)) : Yl P S E (.unOp .neg T x) (bv k (-X)) :=
  y_un hx (fun w => by
    have : BitVec.ofInt m (0 - (X.toNat : Int)) = -X := by rw [ofInt_sub', ofInt_cast]; simp
    simp only [Op.unary, bv, Op.intArith, hk.wrap, this]; simp [pure, Sem.run])
theorem y_not {b} (hx : val E x = some (.bool b)) : Yl P S E (.unOp .not T x) (.bool (!b)) :=
  y_un hx (fun w => by simp [Op.unary, pure, Sem.run])

/-- int, and its kind (int64) -/
abbrev vI (z : Int) : Value := .int .i64 z
theorem wrapI {z : Int} (h : -9223372036854775808 ≤ z ∧ z < 9223372036854775808) : IntKind.i64.wrap z = z := by
  obtain ⟨h1, h2⟩ := h
  simp only [IntKind.wrap, IntKind.bits, IntKind.signed]
  simp; omega
variable {p q : Int}
theorem y_addI (hx : val E x = some (vI p)) (hy : val E y = some (vI q)) (h : -9223372036854775808 ≤ p + q ∧ p + q < 9223372036854775808) : Yl P S E (.binOp .add T x y U) (vI (p + q)) :=
  y_bin hx hy (fun w => by simp [binOp, Op.intArith, wrapI h, pure, Sem.run]) ng_int
theorem y_subI (hx : val E x = some (vI p)) (hy : val E y = some (vI q)) (h : -9223372036854775808 ≤ p - q ∧ p - q < 9223372036854775808) : Yl P S E (.binOp .sub T x y U) (vI (p - q)) :=
  y_bin hx hy (fun w => by simp [binOp, Op.intArith, wrapI h, pure, Sem.run]) ng_int
theorem y_mulI (hx : val E x = some (vI p)) (hy : val E y = some (vI q)) (h : -9223372036854775808 ≤ p * q ∧ p * q < 9223372036854775808) : Yl P S E (.binOp .mul T x y U) (vI (p * q)) :=
  y_bin hx hy (fun w => by simp [binOp, Op.intArith, wrapI h, pure, Sem.run]) ng_int
theorem y_negI (hx : val E x = some (vI p)) (h : -9223372036854775808 < p ∧ p < 9223372036854775808) : Yl P S E (.unOp .neg T x) (vI (-p)) :=
  y_un hx (fun w => by simp [Op.unary, Op.intArith, wrapI (z := -p) ⟨by omega, by omega⟩, pure, Sem.run])
theorem y_quoI (hx : val E x = some (vI p)) (hy : val E y = some (vI q)) (h : 0 ≤ p ∧ 0 < q ∧ p < 9223372036854775808) : Yl P S E (.binOp .quo T x y U) (vI (p / q)) :=
  y_bin hx hy (fun w => by
    have h1 : p.tdiv q = p / q := Int.tdiv_eq_ediv_of_nonneg h.1
    have h2 : 0 ≤ p / q := Int.ediv_nonneg h.1 (by omega)
    have h3 : p / q ≤ p := Int.ediv_le_self q h.1
    have h4 : ¬ q = 0 := by omega
    simp [binOp, Op.intDiv, h4, h1, wrapI (z := p / q) ⟨by omega, by omega⟩, pure, Sem.run]) ng_int
theorem y_remI (hx : val E x = some (vI p)) (hy : val E y = some (vI q)) (h : 0 ≤ p ∧ 0 < q) : Yl P S E (.binOp .rem T x y U) (vI (p % q)) :=
  y_bin hx hy (fun w => by
    have h1 : p.tmod q = p % q := Int.tmod_eq_emod_of_nonneg h.1
    have h4 : ¬ q = 0 := by omega
    simp [binOp, Op.intDiv, h4, h1, pure, Sem.run]) ng_int
/-- any signed or unsigned kind, as numbers -/
theorem y_eqlZ {k : IntKind} (hx : val E x = some (.int k p)) (hy : val E y = some (.int k q)) : Yl P S E (.binOp .eql T x y U) (.bool (decide (p = q))) :=
  y_bin hx hy (fun w => by
    have : (p == q) = decide (p = q) := by rw [Bool.eq_iff_iff]; simp
    simp [binOp, Op.intCmp, this, pure, Sem.run]) ng_int
theorem y_neqZ {k : IntKind} (hx : val E x = some (.int k p)) (hy : val E y = some (.int k q)) : Yl P S E (.binOp .neq T x y U) (.bool (!decide (p = q))) :=
  y_bin hx hy (fun w => by
    have : (p == q) = decide (p = q) := by rw [Bool.eq_iff_iff]; simp
    simp [binOp, Op.intCmp, bne, this, pure, Sem.run]) ng_int
theorem y_lssZ {k : IntKind} (hx : val E x = some (.int k p)) (hy : val E y = some (.int k q)) : Yl P S E (.binOp .lss T x y U) (.bool (decide (p < q))) :=
  y_bin hx hy (fun w => by simp [binOp, Op.intCmp, pure, Sem.run]) ng_int
theorem y_leqZ {k : IntKind} (hx : val E x = some (.int k p)) (hy : val E y = some (.int k q)) : Yl P S E (.binOp .leq T x y U) (.bool (decide (p ≤ q))) :=
  y_bin hx hy (fun w => by simp [binOp, Op.intCmp, pure, Sem.run]) ng_int
theorem y_gtrZ {k : IntKind} (hx : val E x = some (.int k p)) (hy : val E y = some (.int k q)) : Yl P S E (.binOp .gtr T x y U) (.bool (decide (q < p))) :=
  y_bin hx hy (fun w => by simp [binOp, Op.intCmp, pure, Sem.run]) ng_int
theorem y_geqZ {k : IntKind} (hx : val E x = some (.int k p)) (hy : val E y = some (.int k q)) : Yl P S E (.binOp .geq T x y U) (.bool (decide (q ≤ p))) :=
  y_bin hx hy (fun w => by simp [binOp, Op.intCmp, pure, Sem.run]) ng_int
/-- any operation on two numbers, as Go has it -/
theorem y_binZ {op : BinOp} {k : IntKind} {v} (hx : val E x = some (.int k p)) (hy : val E y = some (.int k q)) (hr : ∀ w, (binOp op T (.int k p) (.int k q)).run P w = .ok v w) : Yl P S E (.binOp op T x y U) v := y_bin hx hy hr ng_int

theorem y_conv {src dst u v} (hx : val E x = some u) (hr : ∀ w, (convert src dst u).run P w = .ok v w) : Yl P S E (.convert src dst x) v := by
  intro _ _ _ _ _ ρ hρ w hS
  simp [execOp, hρ _ _ hx, hr, pure, Sem.run]
theorem run_conv_int {src dst : TypeId} {ds : TypeDesc} {k k' : IntKind} {z : Int} (hs : ∀ w, (underlying src).run P w = .ok ds w) (hd : ∀ w, (underlying dst).run P w = .ok (.int k') w) (w : World) :
    (convert src dst (.int k z)).run P w = .ok (.int k' (k'.wrap z)) w := by
  simp [convert, hs, hd, Conv.intToInt, pure, Sem.run]
theorem y_convB {src dst : TypeId} {ds : TypeDesc} {k' : IntKind} {m' : Nat} (hk' : UK k' m') (hs : ∀ w, (underlying src).run P w = .ok ds w) (hd : ∀ w, (underlying dst).run P w = .ok (.int k') w)
    (hx : val E x = some (bv k X)) : Yl P S E (.convert src dst x) (bv k' (X.setWidth m')) :=
  y_conv hx fun w => by
    have : BitVec.ofInt m' (X.toNat : Int) = X.setWidth m' := by apply BitVec.eq_of_toNat_eq; simp
    rw [bv, run_conv_int hs hd, hk'.wrap, this]; rfl
theorem y_convZB {src dst : TypeId} {ds : TypeDesc} {k k' : IntKind} {m' : Nat} (hk' : UK k' m') (hs : ∀ w, (underlying src).run P w = .ok ds w) (hd : ∀ w, (underlying dst).run P w = .ok (.int k') w)
    (hx : val E x = some (.int k p)) : Yl P S E (.convert src dst x) (bv k' (BitVec.ofInt m' p)) :=
  y_conv hx fun w => by rw [run_conv_int hs hd, hk'.wrap]; rfl
theorem y_convBI {src dst : TypeId} {ds : TypeDesc} (hs : ∀ w, (underlying src).run P w = .ok ds w) (hd : ∀ w, (underlying dst).run P w = .ok (.int .i64) w)
    (hx : val E x = some (bv k X)) (h : X.toNat < 9223372036854775808) : Yl P S E (.convert src dst x) (vI (X.toNat : Int)) :=
  y_conv hx fun w => by rw [bv, run_conv_int hs hd, wrapI ⟨by omega, by omega⟩]
theorem y_convZZ {src dst : TypeId} {ds : TypeDesc} {k k' : IntKind} (hs : ∀ w, (underlying src).run P w = .ok ds w) (hd : ∀ w, (underlying dst).run P w = .ok (.int k') w)
    (hx : val E x = some (.int k p)) : Yl P S E (.convert src dst x) (.int k' (k'.wrap p)) :=
  y_conv hx fun w => by rw [run_conv_int hs hd]
theorem y_convII {src dst : TypeId} {ds : TypeDesc} {k : IntKind} (hs : ∀ w, (underlying src).run P w = .ok ds w) (hd : ∀ w, (underlying dst).run P w = .ok (.int .i64) w)
    (hx : val E x = some (.int k p)) (h : -9223372036854775808 ≤ p ∧ p < 9223372036854775808) : Yl P S E (.convert src dst x) (vI p) :=
  y_conv hx fun w => by rw [run_conv_int hs hd, wrapI h]

theorem decT {p : Prop} [Decidable p] (h : p) : Value.bool (decide p) = .bool true := by rw [decide_eq_true h]
theorem decF {p : Prop} [Decidable p] (h : ¬ p) : Value.bool (decide p) = .bool false := by rw [decide_eq_false h]
theorem decNT {p : Prop} [Decidable p] (h : ¬ p) : Value.bool (!decide p) = .bool true := by rw [decide_eq_false h]; rfl
theorem decNF {p : Prop} [Decidable p] (h : p) : Value.bool (!decide p) = .bool false := by rw [decide_eq_true h]; rfl

/-! ### pointers -/
theorem eqIn_ptr {T e} (hT : ∀ w, (underlying T).run P w = .ok (.pointer e) w) (d : Nat) (a : Option Addr) (w : World) : (Op.equalIn (d + 1) T (.pointer a) (.pointer none)).run P w = .ok a.isNone w := by
  cases a <;> simp [Op.equalIn, hT, pure, Sem.run]
theorem eqIn_slice {T e} (hT : ∀ w, (underlying T).run P w = .ok (.slice e) w) (d : Nat) (a : Option Addr) (l c : Nat) (w : World) : (Op.equalIn (d + 1) T (.slice a l c) (.slice none 0 0)).run P w = .ok a.isNone w := by
  cases a <;> simp [Op.equalIn, hT, pure, Sem.run]
theorem equal_is (T : TypeId) (x y : Value) : Op.equal T x y = Op.equalIn (9999 + 1) T x y := rfl
theorem y_eqlNilP {a T e} (hT : ∀ w, (underlying T).run P w = .ok (.pointer e) w) (hx : val E x = some (.pointer a)) (hy : val E y = some (.pointer none)) : Yl P S E (.binOp .eql T x y U) (.bool a.isNone) := by
  refine y_bin hx hy (fun w => ?_) (.inr ⟨by simp, by simp⟩)
  simp only [binOp, equal_is, Sem.run_bind, eqIn_ptr hT]; rfl
theorem y_neqNilP {a T e} (hT : ∀ w, (underlying T).run P w = .ok (.pointer e) w) (hx : val E x = some (.pointer a)) (hy : val E y = some (.pointer none)) : Yl P S E (.binOp .neq T x y U) (.bool a.isSome) := by
  refine y_bin hx hy (fun w => ?_) (.inr ⟨by simp, by simp⟩)
  simp only [binOp, equal_is, Sem.run_bind, eqIn_ptr hT]; cases a <;> rfl
theorem y_eqlNilPk {a T e} {v : Bool} (hT : ∀ w, (underlying T).run P w = .ok (.pointer e) w) (hx : val E x = some (.pointer a)) (hy : val E y = some (.pointer none)) (hv : a.isNone = v) : Yl P S E (.binOp .eql T x y U) (.bool v) := hv ▸ y_eqlNilP hT hx hy
theorem y_neqNilPk {a T e} {v : Bool} (hT : ∀ w, (underlying T).run P w = .ok (.pointer e) w) (hx : val E x = some (.pointer a)) (hy : val E y = some (.pointer none)) (hv : a.isSome = v) : Yl P S E (.binOp .neq T x y U) (.bool v) := hv ▸ y_neqNilP hT hx hy
theorem y_eqlNilS {a T e l c} (hT : ∀ w, (underlying T).run P w = .ok (.slice e) w) (hx : val E x = some (.slice a l c)) (hy : val E y = some (.slice none 0 0)) : Yl P S E (.binOp .eql T x y U) (.bool a.isNone) := by
  refine y_bin hx hy (fun w => ?_) (.inr ⟨by simp, by simp⟩)
  simp only [binOp, equal_is, Sem.run_bind, eqIn_slice hT]; rfl

/-! ### addresses -/
theorem y_fieldAddr {T f b off fs fd sz} (hT : ∀ w, (underlying T).run P w = .ok (.struct fs) w) (hf : fs[f]? = some fd) (hs : ∀ w, (sizeOf fd.type).run P w = .ok sz w) (h0 : Nat.beq sz 0 = false)
    (hx : val E x = some (.pointer (some ⟨b, off, none⟩))) : Yl P S E (.fieldAddr T x f) (.pointer (some ⟨b, Nat.add off fd.offset, none⟩)) := by
  intro _ _ _ _ _ ρ hρ w hS
  have h0' : ¬ sz = 0 := Nat.ne_of_beq_eq_false h0
  have : (Addr.add ⟨b, off, none⟩ fd.offset) = ⟨b, off + fd.offset, none⟩ := by simp only [Addr.add]; split <;> simp_all
  simp [execOp, hρ _ _ hx, Instr.fieldAt, hT, hf, Instr.sureAddr, fieldPlace, hs, h0', this, pure, Sem.run]
theorem y_indexAddrS {T b off e sz len cap i k} (hT : ∀ w, (underlying T).run P w = .ok (.slice e) w) (hs : ∀ w, (sizeOf e).run P w = .ok sz w)
    (hx : val E x = some (.slice (some ⟨b, off, none⟩) len cap)) (hi : val E y = some (.int k i)) (hb : 0 ≤ i ∧ i < len) : Yl P S E (.indexAddr T x y) (.pointer (some ⟨b, off + i.toNat * sz, none⟩)) := by
  intro _ _ _ _ _ ρ hρ w hS
  have : (Addr.add ⟨b, off, none⟩ (i.toNat * sz)) = ⟨b, off + i.toNat * sz, none⟩ := by simp only [Addr.add]; split <;> simp_all
  simp [execOp, hρ _ _ hx, hρ _ _ hi, Instr.indexAt, asIntOf, hT, hs, hb.1, hb.2, this, pure, Sem.run]
theorem y_indexAddrA {T b off e sz len i k} (hT : ∀ w, (underlying T).run P w = .ok (.array len e) w) (hs : ∀ w, (sizeOf e).run P w = .ok sz w)
    (hx : val E x = some (.pointer (some ⟨b, off, none⟩))) (hi : val E y = some (.int k i)) (hb : 0 ≤ i ∧ i < len) : Yl P S E (.indexAddr T x y) (.pointer (some ⟨b, off + i.toNat * sz, none⟩)) := by
  intro _ _ _ _ _ ρ hρ w hS
  have : (Addr.add ⟨b, off, none⟩ (i.toNat * sz)) = ⟨b, off + i.toNat * sz, none⟩ := by simp only [Addr.add]; split <;> simp_all
  simp [execOp, hρ _ _ hx, hρ _ _ hi, Instr.indexAt, asIntOf, Instr.sureAddr, hT, hs, hb.1, hb.2, this, pure, Sem.run]

/-! ### reading -/
theorem y_load1 {T b off T0 ps v} (hA : ∀ w, (isAgg T).run P w = .ok false w) (hx : val E x = some (.pointer (some ⟨b, off, none⟩)))
    (hm : ∀ w, S w → w.heap[b]? = some (obj T0 ps)) (hc : cellAt ps off = some v) : Yl P S E (.load T x) v := by
  intro _ _ _ _ _ ρ hρ w hS
  have h2 : w.cell? ⟨b, off, none⟩ = some v := by
    simp only [World.cell?, hm w hS, obj]
    simpa using cellAt_flat _ _ _ hc
  simp [execOp, hρ _ _ hx, Instr.loadAt, Instr.sureAddr, loadVar, hA, load, Sem.run, h2, pure]
theorem y_loadN {T b off T0 ps n qs} (hA : ∀ w, (isAgg T).run P w = .ok true w) (hz : ∀ w, (sizeOf T).run P w = .ok n w) (hx : val E x = some (.pointer (some ⟨b, off, none⟩)))
    (hm : ∀ w, S w → w.heap[b]? = some (obj T0 ps)) (hc : spanAt ps off n = some qs) : Yl P S E (.load T x) (vagg qs) := by
  intro _ _ _ _ _ ρ hρ w hS
  obtain ⟨_, _, _, _, h3⟩ := spanAt_eq _ _ _ _ hc
  have hl : (loadCells ⟨b, off, none⟩ n).run P w = .ok (flat qs).toArray w := by
    have := run_loadCells (P := P) (w := w) (b := b) (off := off) (cs := flat qs) (hm w hS) (fun j v hj => span_get hc j v hj)
    rwa [flat_length, h3] at this
  simp [execOp, hρ _ _ hx, Instr.loadAt, Instr.sureAddr, loadVar, hA, hz, hl, Sem.run, pure, vagg]
/-- a cell of which something else tells -/
theorem y_loadC {T b off v} (hA : ∀ w, (isAgg T).run P w = .ok false w) (hx : val E x = some (.pointer (some ⟨b, off, none⟩)))
    (hm : ∀ w, S w → w.cell? ⟨b, off, none⟩ = some v) : Yl P S E (.load T x) v := by
  intro _ _ _ _ _ ρ hρ w hS
  simp [execOp, hρ _ _ hx, Instr.loadAt, Instr.sureAddr, loadVar, hA, load, Sem.run, hm w hS, pure]

theorem y_field1 {T f fs fd ps v} (hT : ∀ w, (underlying T).run P w = .ok (.struct fs) w) (hf : fs[f]? = some fd) (hA : ∀ w, (isAgg fd.type).run P w = .ok false w)
    (hx : val E x = some (vagg ps)) (hc : cellAt ps fd.offset = some v) : Yl P S E (.field T x f) v := by
  intro _ _ _ _ _ ρ hρ w hS
  have h2 := cellAt_flat _ _ _ hc
  simp [execOp, hρ _ _ hx, Instr.field, hT, hf, asAgg, part, hA, h2, vagg, Sem.run, pure]
theorem y_fieldN {T f fs fd n ps qs} (hT : ∀ w, (underlying T).run P w = .ok (.struct fs) w) (hf : fs[f]? = some fd) (hA : ∀ w, (isAgg fd.type).run P w = .ok true w) (hz : ∀ w, (sizeOf fd.type).run P w = .ok n w)
    (hx : val E x = some (vagg ps)) (hc : spanAt ps fd.offset n = some qs) : Yl P S E (.field T x f) (vagg qs) := by
  intro _ _ _ _ _ ρ hρ w hS
  have h2 := span_extract hc
  simp only [execOp, hρ _ _ hx, Instr.field, hT, hf, asAgg, part, hA, hz, vagg, Sem.run_bind, Result.andThen, pure, Sem.run, h2, if_true]
end yl
end
end Go.V
