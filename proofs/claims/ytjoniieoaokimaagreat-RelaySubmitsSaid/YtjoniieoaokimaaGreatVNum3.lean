/- Walks and laws of this claim, part Num3. -/
import Derived.Test.YtjoniieoaokimaaGreatVNum2
set_option linter.unusedVariables false
set_option linter.unusedSimpArgs false
set_option linter.unusedSectionVars false
set_option autoImplicit true
set_option relaxedAutoImplicit true
namespace Go.V
/-! ### shifts -/
/-- a word shifted up, and what falls out of it -/
theorem shl_split (X : BitVec 64) (r : Nat) (hr : r < 64) : X.toNat * 2 ^ r = 18446744073709551616 * (X >>> (64 - r)).toNat + (X <<< r).toNat := by
  rw [BitVec.toNat_ushiftRight, BitVec.toNat_shiftLeft, Nat.shiftRight_eq_div_pow, Nat.shiftLeft_eq]
  have h1 : (2 : Nat) ^ 64 = 2 ^ (64 - r) * 2 ^ r := by rw [← Nat.pow_add]; congr 1; omega
  have h2 : X.toNat / 2 ^ (64 - r) = X.toNat * 2 ^ r / 2 ^ 64 := by
    rw [h1, Nat.mul_div_mul_right _ _ (Nat.pow_pos (by omega))]
  rw [h2]
  have := Nat.div_add_mod (X.toNat * 2 ^ r) (2 ^ 64)
  omega
theorem shl_or (X Y : BitVec 64) (r : Nat) (hr : r < 64) (_h0 : 0 < r) : ((X <<< r) ||| (Y >>> (64 - r))).toNat = (X <<< r).toNat + (Y >>> (64 - r)).toNat := by
  have hp : (2 : Nat) ^ (64 - r) * 2 ^ r = 2 ^ 64 := by
    rw [← Nat.pow_add]; congr 1; omega
  have h1 : (X <<< r).toNat = (X.toNat % 2 ^ (64 - r)) <<< r := by
    rw [BitVec.toNat_shiftLeft, Nat.shiftLeft_eq, Nat.shiftLeft_eq, ← hp, Nat.mul_mod_mul_right]
  have h2 : (Y >>> (64 - r)).toNat < 2 ^ r := by
    rw [BitVec.toNat_ushiftRight, Nat.shiftRight_eq_div_pow]
    refine Nat.div_lt_of_lt_mul ?_
    rw [hp]; exact Y.isLt
  rw [BitVec.toNat_or, h1, ← Nat.shiftLeft_add_eq_or_of_lt h2]
theorem shr_or (X Y : BitVec 64) (r : Nat) (hr : r < 64) (h0 : 0 < r) : ((X >>> r) ||| (Y <<< (64 - r))).toNat = (X >>> r).toNat + (Y <<< (64 - r)).toNat := by
  have h1 := shl_or Y X (64 - r) (by omega) (by omega)
  have h2 : 64 - (64 - r) = r := by omega
  rw [h2] at h1
  rw [BitVec.or_comm, h1, Nat.add_comm]
/-- the words of a number shifted up by less than a word -/
theorem left_words (a b c d : BitVec 64) (r : Nat) (hr : r < 64) (q0 q1 q2 q3 : Nat) (e0 : q0 = (a <<< r).toNat) (e1 : q1 = (b <<< r).toNat + (a >>> (64 - r)).toNat) (e2 : q2 = (c <<< r).toNat + (b >>> (64 - r)).toNat)
    (e3 : q3 = (d <<< r).toNat + (c >>> (64 - r)).toNat) : w4 q0 q1 q2 q3 + M256 * (d >>> (64 - r)).toNat = wn a b c d * 2 ^ r := by
  have h0 := shl_split a r hr
  have h1 := shl_split b r hr
  have h2 := shl_split c r hr
  have h3 := shl_split d r hr
  subst e0 e1 e2 e3
  simp only [w4, wn, M256, Nat.add_mul, Nat.mul_assoc]
  rw [h0, h1, h2, h3]
  generalize (a <<< r).toNat = A; generalize (b <<< r).toNat = B; generalize (c <<< r).toNat = C; generalize (d <<< r).toNat = D
  generalize (a >>> (64 - r)).toNat = A'; generalize (b >>> (64 - r)).toNat = B'; generalize (c >>> (64 - r)).toNat = C'; generalize (d >>> (64 - r)).toNat = D'
  omega
theorem shr_split (X : BitVec 64) (r : Nat) (hr : r < 64) (h0 : 0 < r) : X.toNat * 2 ^ (64 - r) = 18446744073709551616 * (X >>> r).toNat + (X <<< (64 - r)).toNat := by
  have := shl_split X (64 - r) (by omega)
  have h2 : 64 - (64 - r) = r := by omega
  rwa [h2] at this
theorem right_words (a b c d : BitVec 64) (r : Nat) (hr : r < 64) (h0 : 0 < r) (q0 q1 q2 q3 : Nat) (e0 : q0 = (a >>> r).toNat + (b <<< (64 - r)).toNat) (e1 : q1 = (b >>> r).toNat + (c <<< (64 - r)).toNat) (e2 : q2 = (c >>> r).toNat + (d <<< (64 - r)).toNat)
    (e3 : q3 = (d >>> r).toNat) : w4 q0 q1 q2 q3 = wn a b c d / 2 ^ r := by
  have g0 := shr_split a r hr h0
  have g1 := shr_split b r hr h0
  have g2 := shr_split c r hr h0
  have g3 := shr_split d r hr h0
  have hp : (2 : Nat) ^ r * 2 ^ (64 - r) = 18446744073709551616 := by
    have h64 : r + (64 - r) = 64 := by omega
    rw [← Nat.pow_add, h64]
  have hpos : 0 < 2 ^ (64 - r) := Nat.pow_pos (by omega)
  subst e0 e1 e2 e3
  have key : wn a b c d * 2 ^ (64 - r) = 18446744073709551616 * w4 ((a >>> r).toNat + (b <<< (64 - r)).toNat) ((b >>> r).toNat + (c <<< (64 - r)).toNat) ((c >>> r).toNat + (d <<< (64 - r)).toNat) (d >>> r).toNat + (a <<< (64 - r)).toNat := by
    simp only [w4, wn, Nat.add_mul, Nat.mul_assoc]
    rw [g0, g1, g2, g3]
    generalize (a >>> r).toNat = A; generalize (b >>> r).toNat = B; generalize (c >>> r).toNat = C; generalize (d >>> r).toNat = D
    generalize (a <<< (64 - r)).toNat = A'; generalize (b <<< (64 - r)).toNat = B'; generalize (c <<< (64 - r)).toNat = C'; generalize (d <<< (64 - r)).toNat = D'
    omega
  have h4 : wn a b c d / 2 ^ r = wn a b c d * 2 ^ (64 - r) / 18446744073709551616 := by
    rw [← hp, Nat.mul_div_mul_right _ _ hpos]
  rw [h4, key, Nat.mul_add_div (by omega), Nat.div_eq_of_lt (by exact BitVec.isLt _), Nat.add_zero]
theorem wn_w4 (a b c d : BitVec 64) : wn a b c d = w4 a.toNat b.toNat c.toNat d.toNat := rfl

theorem mul_digit (x y k : Nat) (hx : x < 18446744073709551616) (hy : y < 18446744073709551616) (hk : k < 18446744073709551616) :
    ∃ p, p = x * y ∧ p + k < 340282366920938463463374607431768211456 := by
  refine ⟨_, rfl, ?_⟩
  have : x * y ≤ 18446744073709551615 * 18446744073709551615 := Nat.mul_le_mul (by omega) (by omega)
  omega
end Go.V
