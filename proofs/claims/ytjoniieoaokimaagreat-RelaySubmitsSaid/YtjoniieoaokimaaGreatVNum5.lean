/- Walks and laws of this claim, part Num5. -/
import Derived.Test.YtjoniieoaokimaaGreatVEqs
set_option linter.unusedVariables false
set_option linter.unusedSimpArgs false
set_option linter.unusedSectionVars false
set_option autoImplicit true
set_option relaxedAutoImplicit true
namespace Go.V
/-! ### bytes, the lowest first -/
def le : List (BitVec 8) → Nat
  | [] => 0
  | x :: xs => x.toNat + 256 * le xs
theorem le_lt : ∀ l, le l < 256 ^ l.length
  | [] => by simp [le]
  | x :: xs => by
    have := le_lt xs
    have := x.isLt
    rw [le, List.length_cons, Nat.pow_succ]; omega
theorem le_snoc : ∀ (l : List (BitVec 8)) (x : BitVec 8), le (l ++ [x]) = le l + x.toNat * 256 ^ l.length
  | [], x => by simp [le]
  | y :: l, x => by
    rw [List.cons_append, le, le_snoc l x, le, List.length_cons, Nat.pow_succ]
    simp only [Nat.mul_add, Nat.add_assoc, Nat.mul_comm, Nat.mul_left_comm]
theorem pow256 (i : Nat) : 256 ^ i = 2 ^ (64 * (i / 8)) * 2 ^ (8 * (i % 8)) := by
  rw [← Nat.pow_add, show (256 : Nat) = 2 ^ 8 from rfl, ← Nat.pow_mul]; congr 1; omega
/-- a byte more, as words -/
theorem byte_words (m i : Nat) (x : BitVec 8) (hm : m < 256 ^ i) (hi : i < 32) (q : Nat) (hq : q < 4) :
    nw (m + x.toNat * 256 ^ i) q = if q = i / 8 then nw m (i / 8) ||| (x.setWidth 64 <<< (8 * (i % 8))) else nw m q := by
  have hx := x.isLt
  have hp := pow256 i
  have hs8 : 2 ^ (8 * (i % 8)) * 256 ≤ 2 ^ 64 := by
    rw [show (256 : Nat) = 2 ^ 8 from rfl, ← Nat.pow_add]; exact Nat.pow_le_pow_right (by omega) (by omega)
  apply BitVec.eq_of_toNat_eq
  rcases Nat.lt_trichotomy q (i / 8) with h | h | h
  · rw [if_neg (by omega), nw_toNat, nw_toNat]
    have e : x.toNat * 256 ^ i = (x.toNat * 2 ^ (64 * (i / 8 - (q + 1))) * 2 ^ (8 * (i % 8))) * 2 ^ 64 * 2 ^ (64 * q) := by
      have : 2 ^ (64 * (i / 8)) = 2 ^ (64 * (i / 8 - (q + 1))) * 2 ^ 64 * 2 ^ (64 * q) := by
        rw [← Nat.pow_add, ← Nat.pow_add]; congr 1; omega
      rw [hp, this]; simp only [Nat.mul_assoc, Nat.mul_left_comm, Nat.mul_comm]
    rw [e, Nat.add_mul_div_right _ _ (Nat.pow_pos (by omega)), Nat.add_mul_mod_self_right]
  · subst h
    rw [if_pos rfl, nw_toNat, BitVec.toNat_or, nw_toNat, BitVec.toNat_shiftLeft, BitVec.toNat_setWidth, Nat.mod_eq_of_lt (show x.toNat < 2 ^ 64 by omega)]
    have hB : 0 < 2 ^ (64 * (i / 8)) := Nat.pow_pos (by omega)
    have h1 : m / 2 ^ (64 * (i / 8)) < 2 ^ (8 * (i % 8)) := by
      refine Nat.div_lt_of_lt_mul ?_
      rw [← hp]; exact hm
    have h2 : x.toNat * 2 ^ (8 * (i % 8)) ≤ 255 * 2 ^ (8 * (i % 8)) := Nat.mul_le_mul_right _ (by omega)
    have e : x.toNat * 256 ^ i = x.toNat * 2 ^ (8 * (i % 8)) * 2 ^ (64 * (i / 8)) := by rw [hp]; simp only [Nat.mul_assoc, Nat.mul_left_comm, Nat.mul_comm]
    rw [e, Nat.add_mul_div_right _ _ hB, Nat.shiftLeft_eq, Nat.mod_eq_of_lt (show m / 2 ^ (64 * (i / 8)) + x.toNat * 2 ^ (8 * (i % 8)) < 2 ^ 64 by omega), Nat.mod_eq_of_lt (show m / 2 ^ (64 * (i / 8)) < 2 ^ 64 by omega),
      Nat.mod_eq_of_lt (show x.toNat * 2 ^ (8 * (i % 8)) < 2 ^ 64 by omega), ← Nat.shiftLeft_eq, Nat.or_comm, ← Nat.shiftLeft_add_eq_or_of_lt h1, Nat.add_comm]
  · rw [if_neg (by omega), nw_toNat, nw_toNat]
    have hle : 256 ^ i * 256 ≤ 2 ^ (64 * q) := by
      rw [show (256 : Nat) = 2 ^ 8 from rfl, ← Nat.pow_mul, ← Nat.pow_add]; exact Nat.pow_le_pow_right (by omega) (by omega)
    have h1 : m + x.toNat * 256 ^ i < 2 ^ (64 * q) := by
      have : x.toNat * 256 ^ i ≤ 255 * 256 ^ i := Nat.mul_le_mul_right _ (by omega)
      omega
    rw [Nat.div_eq_of_lt h1, Nat.div_eq_of_lt (by omega)]

section
variable {P : Program} {E : Env} {S : World → Prop} {x y : Operand}
/-- an element of an array value that is one row -/
theorem y_indexL {T e n k m k' i} {l : List (BitVec m)} {h : l.length = n} (hT : ∀ w, (underlying T).run P w = .ok (.array n e) w) (hA : ∀ w, (isAgg e).run P w = .ok false w) (hs : ∀ w, (sizeOf e).run P w = .ok 1 w)
    (hx : val E x = some (vagg [leaf k n l h])) (hi : val E y = some (.int k' i)) (hb : 0 ≤ i ∧ i < n) : Yl P S E (.index T x y) (bv k (l.getD i.toNat 0#m)) := by
  intro _ _ _ _ _ ρ hρ w hS
  have h1 := part1 (P := P) (T := e) (off := i.toNat * 1) hA (by rw [Nat.mul_one]; exact leaf_cell (k := k) (h := h) (show i.toNat < n by omega)) w
  simp only [execOp, hρ _ _ hx, hρ _ _ hi, Instr.index, asIntOf, hT, hs, Sem.run_bind, Result.andThen, pure, Sem.run, vagg, hb.1, hb.2, and_self, if_true, h1]
end

/-! ### division, bit by bit -/
theorem div_step (x y k : Nat) (hy : 0 < y) : x / 2 ^ k / y = 2 * (x / 2 ^ (k + 1) / y) + (if y ≤ 2 * (x / 2 ^ (k + 1) % y) + x / 2 ^ k % 2 then 1 else 0) ∧
    x / 2 ^ k % y = (if y ≤ 2 * (x / 2 ^ (k + 1) % y) + x / 2 ^ k % 2 then 2 * (x / 2 ^ (k + 1) % y) + x / 2 ^ k % 2 - y else 2 * (x / 2 ^ (k + 1) % y) + x / 2 ^ k % 2) := by
  have h1 : x / 2 ^ (k + 1) = x / 2 ^ k / 2 := by rw [Nat.pow_succ, Nat.div_div_eq_div_mul]
  rw [h1]
  generalize x / 2 ^ k = z
  have h2 := Nat.div_add_mod z 2
  have h3 := Nat.div_add_mod (z / 2) y
  have h4 : z / 2 % y < y := Nat.mod_lt _ hy
  have h5 : z % 2 < 2 := Nat.mod_lt _ (by omega)
  generalize z / 2 / y = q at *
  generalize z / 2 % y = r at *
  have key : z = y * (2 * q) + (2 * r + z % 2) := by
    rw [Nat.mul_left_comm]; omega
  split
  · rename_i h
    have e : z = y * (2 * q + 1) + (2 * r + z % 2 - y) := by rw [Nat.mul_add, Nat.mul_one]; omega
    constructor
    · refine Nat.div_eq_of_lt_le ?_ ?_
      · rw [Nat.mul_comm]; omega
      · rw [Nat.add_mul, Nat.mul_comm _ y]; omega
    · conv => lhs; rw [e]
      rw [Nat.mul_add_mod, Nat.mod_eq_of_lt (by omega)]
  · rename_i h
    constructor
    · refine Nat.div_eq_of_lt_le ?_ ?_
      · rw [Nat.add_zero, Nat.mul_comm]; omega
      · rw [Nat.add_zero, Nat.add_mul, Nat.mul_comm _ y]; omega
    · conv => lhs; rw [key]
      rw [Nat.mul_add_mod, Nat.mod_eq_of_lt (by omega)]
/-- bit j of a number, out of its words -/
theorem bit_word (x j : Nat) (hj : j < 256) : (nw x (j / 64) >>> (j % 64) &&& 1#64).toNat = x / 2 ^ j % 2 := by
  rw [BitVec.toNat_and, BitVec.toNat_ushiftRight, nw_toNat, Nat.shiftRight_eq_div_pow]
  have : (1#64).toNat = 2 ^ 1 - 1 := rfl
  rw [this, Nat.and_two_pow_sub_one_eq_mod]
  have e : x / 2 ^ (64 * (j / 64)) % 2 ^ 64 / 2 ^ (j % 64) % 2 = x / 2 ^ (64 * (j / 64)) / 2 ^ (j % 64) % 2 := by
    have h1 : (2 : Nat) ^ 64 = 2 ^ (j % 64) * (2 * 2 ^ (63 - j % 64)) := by
      rw [← Nat.pow_succ', ← Nat.pow_add]; congr 1; omega
    rw [h1, Nat.mod_mul_right_div_self, Nat.mod_mul_right_mod]
  rw [Nat.pow_one, e, Nat.div_div_eq_div_mul, ← Nat.pow_add]
  congr 3; omega
/-- bit 0 put into an even number -/
theorem low_bit (z b : Nat) (hb : b < 2) (X : BitVec 64) (hX : X.toNat = b) (q : Nat) : nw (2 * z + b) q = if q = 0 then nw (2 * z) 0 ||| X else nw (2 * z) q := by
  apply BitVec.eq_of_toNat_eq
  by_cases h : q = 0
  · subst h
    rw [if_pos rfl, nw_toNat, BitVec.toNat_or, nw_toNat, hX]
    simp only [Nat.mul_zero, Nat.pow_zero, Nat.div_one]
    obtain ⟨u, hu⟩ : ∃ u, u = z % 9223372036854775808 := ⟨_, rfl⟩
    have e : 2 * z % 2 ^ 64 = u <<< 1 := by rw [Nat.shiftLeft_eq]; omega
    have e2 : (2 * z + b) % 2 ^ 64 = u <<< 1 + b := by rw [Nat.shiftLeft_eq]; omega
    rw [e, e2, Nat.shiftLeft_add_eq_or_of_lt (show b < 2 ^ 1 by omega)]
  · rw [if_neg h, nw_toNat, nw_toNat]
    obtain ⟨k, rfl⟩ : ∃ k, q = k + 1 := ⟨q - 1, by omega⟩
    have e : 2 ^ (64 * (k + 1)) = 2 * 2 ^ (64 * k + 63) := by rw [← Nat.pow_succ']; congr 1
    have e2 : (2 * z + b) / 2 = 2 * z / 2 := by omega
    rw [e, ← Nat.div_div_eq_div_mul, ← Nat.div_div_eq_div_mul, e2]
/-- bit j put where there is none -/
theorem put_bit (z j : Nat) (hz : z % 2 ^ (j + 1) = 0) (q : Nat) : nw (z + 2 ^ j) q = if q = j / 64 then nw z (j / 64) ||| (1#64 <<< (j % 64)) else nw z q := by
  obtain ⟨t, ht⟩ : ∃ t, z = t * 2 ^ (j + 1) := ⟨z / 2 ^ (j + 1), by have := Nat.div_add_mod z (2 ^ (j + 1)); rw [hz, Nat.add_zero, Nat.mul_comm] at this; exact this.symm⟩
  apply BitVec.eq_of_toNat_eq
  rcases Nat.lt_trichotomy q (j / 64) with h | h | h
  · rw [if_neg (by omega), nw_toNat, nw_toNat]
    have e : 2 ^ j = (2 ^ (j - 64 * q - 64) * 2 ^ 64) * 2 ^ (64 * q) := by rw [← Nat.pow_add, ← Nat.pow_add]; congr 1; omega
    rw [e, Nat.add_mul_div_right _ _ (Nat.pow_pos (by omega)), Nat.add_mul_mod_self_right]
  · subst h
    rw [if_pos rfl, nw_toNat, BitVec.toNat_or, nw_toNat, BitVec.toNat_shiftLeft]
    have e : 2 ^ j = 2 ^ (j % 64) * 2 ^ (64 * (j / 64)) := by rw [← Nat.pow_add]; congr 1; omega
    have e2 : z = (t * 2 ^ (j % 64 + 1)) * 2 ^ (64 * (j / 64)) := by rw [ht, Nat.mul_assoc, ← Nat.pow_add]; congr 2; omega
    have hB : 0 < 2 ^ (64 * (j / 64)) := Nat.pow_pos (by omega)
    have e3 : z / 2 ^ (64 * (j / 64)) = t * 2 ^ (j % 64 + 1) := by rw [e2, Nat.mul_div_cancel _ hB]
    have h64 : (2 : Nat) ^ 64 = 2 ^ (63 - j % 64) * 2 ^ (j % 64 + 1) := by rw [← Nat.pow_add]; congr 1; omega
    have hlt : 2 ^ (j % 64) < 2 ^ (j % 64 + 1) := Nat.pow_lt_pow_right (by omega) (by omega)
    have hlt2 : 2 ^ (j % 64) < 2 ^ 64 := Nat.pow_lt_pow_right (by omega) (by omega)
    have hone : (1#64).toNat = 1 := rfl
    rw [e, Nat.add_mul_div_right _ _ hB, e3, hone, Nat.shiftLeft_eq, Nat.one_mul, Nat.mod_eq_of_lt hlt2]
    have e4 : (t * 2 ^ (j % 64 + 1)) % 2 ^ 64 = (t % 2 ^ (63 - j % 64)) <<< (j % 64 + 1) := by rw [h64, Nat.mul_mod_mul_right, Nat.shiftLeft_eq]
    rw [e4, ← Nat.shiftLeft_add_eq_or_of_lt hlt, ← e4]
    have h5 : (t * 2 ^ (j % 64 + 1)) % 2 ^ 64 + 2 ^ (j % 64) < 2 ^ 64 := by
      rw [h64, Nat.mul_mod_mul_right]
      have h6 : t % 2 ^ (63 - j % 64) < 2 ^ (63 - j % 64) := Nat.mod_lt _ (Nat.pow_pos (by omega))
      have h7 : (t % 2 ^ (63 - j % 64) + 1) * 2 ^ (j % 64 + 1) ≤ 2 ^ (63 - j % 64) * 2 ^ (j % 64 + 1) := Nat.mul_le_mul_right _ h6
      rw [Nat.add_mul, Nat.one_mul] at h7
      omega
    rw [Nat.add_mod, Nat.mod_eq_of_lt hlt2, Nat.mod_eq_of_lt h5]
  · rw [if_neg (by omega), nw_toNat, nw_toNat]
    have e : 2 ^ (64 * q) = 2 ^ (j + 1) * 2 ^ (64 * q - (j + 1)) := by rw [← Nat.pow_add]; congr 1; omega
    have h1 : (z + 2 ^ j) / 2 ^ (j + 1) = z / 2 ^ (j + 1) := by
      rw [ht, Nat.mul_div_cancel _ (Nat.pow_pos (by omega)), Nat.add_comm, Nat.add_mul_div_right _ _ (Nat.pow_pos (by omega)), Nat.div_eq_of_lt (Nat.pow_lt_pow_right (by omega) (by omega)), Nat.zero_add]
    rw [e, ← Nat.div_div_eq_div_mul, ← Nat.div_div_eq_div_mul, h1]

/-! ### products -/
def wmul (a b c d x : BitVec 64) : (BitVec 64 × BitVec 64 × BitVec 64 × BitVec 64) × BitVec 64 :=
  let f (a k : BitVec 64) := (BitVec.ofNat 64 ((BitVec.ofNat 64 (a.toNat * x.toNat)).toNat + k.toNat + (0#64).toNat),
    BitVec.ofNat 64 (a.toNat * x.toNat / 18446744073709551616) + BitVec.ofNat 64 (((BitVec.ofNat 64 (a.toNat * x.toNat)).toNat + k.toNat + (0#64).toNat) / 18446744073709551616))
  let r0 := f a 0#64; let r1 := f b r0.2; let r2 := f c r1.2; let r3 := f d r2.2
  ((r0.1, r1.1, r2.1, r3.1), r3.2)
theorem mul_dig (a x k : BitVec 64) : ∃ s b, (BitVec.ofNat 64 ((BitVec.ofNat 64 (a.toNat * x.toNat)).toNat + k.toNat + (0#64).toNat)) = s ∧
    (BitVec.ofNat 64 (a.toNat * x.toNat / 18446744073709551616) + BitVec.ofNat 64 (((BitVec.ofNat 64 (a.toNat * x.toNat)).toNat + k.toNat + (0#64).toNat) / 18446744073709551616)) = b ∧ s.toNat + 18446744073709551616 * b.toNat = a.toNat * x.toNat + k.toNat := by
  refine ⟨_, _, rfl, rfl, ?_⟩
  have h1 := a.isLt
  have h2 := x.isLt
  have h3 := k.isLt
  have hz : (0#64).toNat = 0 := rfl
  have hp : a.toNat * x.toNat ≤ 18446744073709551615 * 18446744073709551615 := Nat.mul_le_mul (by omega) (by omega)
  simp only [BitVec.toNat_ofNat, BitVec.toNat_add, hz]
  generalize a.toNat * x.toNat = p at *
  omega
theorem wmul_eq (a b c d x : BitVec 64) : wn (wmul a b c d x).1.1 (wmul a b c d x).1.2.1 (wmul a b c d x).1.2.2.1 (wmul a b c d x).1.2.2.2 = (wn a b c d * x.toNat) % M256 ∧ (0 < (wmul a b c d x).2.toNat ↔ M256 ≤ wn a b c d * x.toNat) := by
  obtain ⟨s0, b0, e0, f0, g0⟩ := mul_dig a x 0#64
  obtain ⟨s1, b1, e1, f1, g1⟩ := mul_dig b x b0
  obtain ⟨s2, b2, e2, f2, g2⟩ := mul_dig c x b1
  obtain ⟨s3, b3, e3, f3, g3⟩ := mul_dig d x b2
  have hz : (0#64).toNat = 0 := rfl
  have key : wn s0 s1 s2 s3 + M256 * b3.toNat = wn a b c d * x.toNat + 0 := by
    simp only [wn, M256, Nat.add_mul, Nat.mul_assoc]
    generalize a.toNat * x.toNat = pa at *
    generalize b.toNat * x.toNat = pb at *
    generalize c.toNat * x.toNat = pc at *
    generalize d.toNat * x.toNat = pd at *
    omega
  have := mod_fin key (wn_lt _ _ _ _)
  simp only [Nat.add_zero] at this
  simp only [wmul, f0, e0, f1, e1, f2, e2, f3, e3]
  exact ⟨this.1, by rw [← this.2]; omega⟩
end Go.V
