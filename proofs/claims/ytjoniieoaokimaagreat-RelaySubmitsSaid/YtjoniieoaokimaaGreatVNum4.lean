/- Walks and laws of this claim, part Num4. -/
import Derived.Test.YtjoniieoaokimaaGreatVNum3
set_option linter.unusedVariables false
set_option linter.unusedSimpArgs false
set_option linter.unusedSectionVars false
set_option autoImplicit true
set_option relaxedAutoImplicit true
namespace Go.V
theorem pow64 (w r : Nat) : 2 ^ (64 * w + r) = (2 ^ 64) ^ w * 2 ^ r := by rw [Nat.pow_add, Nat.pow_mul]
/-- the words shifted up by whole words -/
theorem up_words (q0 q1 q2 q3 X N w r n : Nat) (h : w4 q0 q1 q2 q3 + M256 * X = N) (hN : N = n * 2 ^ r) (g0 : q0 < 18446744073709551616) (g1 : q1 < 18446744073709551616) (g2 : q2 < 18446744073709551616) (g3 : q3 < 18446744073709551616) :
    n * 2 ^ (64 * w + r) % M256 = if w = 0 then w4 q0 q1 q2 q3 else if w = 1 then w4 0 q0 q1 q2 else if w = 2 then w4 0 0 q0 q1 else if w = 3 then w4 0 0 0 q0 else n * 2 ^ (64 * w + r) % M256 := by
  have hN' : n * 2 ^ (64 * w + r) = (2 ^ 64) ^ w * N := by rw [hN, pow64]; exact Nat.mul_left_comm _ _ _
  clear hN
  rw [hN']
  split
  · subst w; simp only [w4, M256] at *; omega
  · split
    · subst w; simp only [w4, M256] at *; omega
    · split
      · subst w; simp only [w4, M256] at *; omega
      · split
        · subst w; simp only [w4, M256] at *; omega
        · rfl
theorem down_words (q0 q1 q2 q3 w r n : Nat) (h : w4 q0 q1 q2 q3 = n / 2 ^ r) (g0 : q0 < 18446744073709551616) (g1 : q1 < 18446744073709551616) (g2 : q2 < 18446744073709551616) (g3 : q3 < 18446744073709551616) :
    n / 2 ^ (64 * w + r) = if w = 0 then w4 q0 q1 q2 q3 else if w = 1 then w4 q1 q2 q3 0 else if w = 2 then w4 q2 q3 0 0 else if w = 3 then w4 q3 0 0 0 else n / 2 ^ (64 * w + r) := by
  have hN' : n / 2 ^ (64 * w + r) = n / 2 ^ r / (2 ^ 64) ^ w := by rw [pow64, Nat.mul_comm, Nat.div_div_eq_div_mul]
  rw [hN', ← h]
  split
  · subst w; simp only [w4] at *; omega
  · split
    · subst w; simp only [w4] at *; omega
    · split
      · subst w; simp only [w4] at *; omega
      · split
        · subst w; simp only [w4] at *; omega
        · rfl
theorem sr64 (X : BitVec 64) : (X >>> (64 - 0)).toNat = 0 := by
  rw [BitVec.toNat_ushiftRight, Nat.shiftRight_eq_div_pow]; exact Nat.div_eq_of_lt X.isLt
end Go.V
