/- Walks and laws of this claim, part Num2. -/
import Derived.Test.YtjoniieoaokimaaGreatVNum
import Derived.Lib.ItoaNum
import Derived.Lib.BitFns
set_option linter.unusedVariables false
set_option linter.unusedSimpArgs false
set_option linter.unusedSectionVars false
set_option autoImplicit true
set_option relaxedAutoImplicit true
namespace Go.V
/-- how many bits a number needs -/
def nbits (n : Nat) : Nat := Lib.bitLenAux 256 n
theorem nbits_zero : nbits 0 = 0 := by simp [nbits, Lib.bitLenAux]
theorem nbits_bounds {n : Nat} (h : n < M256) (h0 : n ≠ 0) : 1 ≤ nbits n ∧ 2 ^ (nbits n - 1) ≤ n ∧ n < 2 ^ nbits n := Lib.bitLenAux_bounds 256 n h h0
theorem lt_nbits {n : Nat} (h : n < M256) : n < 2 ^ nbits n := by
  by_cases h0 : n = 0
  · subst h0; simp [nbits_zero]
  · exact (nbits_bounds h h0).2.2
theorem bits_unique {n a b : Nat} (ha : 2 ^ (a - 1) ≤ n) (ha' : n < 2 ^ a) (hb : 2 ^ (b - 1) ≤ n) (hb' : n < 2 ^ b) (h1 : 1 ≤ a) (h2 : 1 ≤ b) : a = b := by
  have h3 : a - 1 < b := (Nat.pow_lt_pow_iff_right (by omega : 1 < 2)).1 (Nat.lt_of_le_of_lt ha hb')
  have h4 : b - 1 < a := (Nat.pow_lt_pow_iff_right (by omega : 1 < 2)).1 (Nat.lt_of_le_of_lt hb ha')
  omega
theorem nbits_le {n : Nat} (h : n < M256) : nbits n ≤ 256 := by
  by_cases h0 : n = 0
  · subst h0; simp [nbits_zero]
  · obtain ⟨h1, h2, _⟩ := nbits_bounds h h0
    have h3 : nbits n - 1 < 256 := (Nat.pow_lt_pow_iff_right (by omega : 1 < 2)).1 (Nat.lt_of_le_of_lt h2 h)
    omega
theorem bl (x : BitVec 64) : Lib.bitLen x.toNat ≤ 64 := Lib.bitLen_le x.toNat 64 (Nat.le_refl _) x.isLt
def wbits (a b c d : BitVec 64) : Nat := if 0 < d.toNat then 192 + Lib.bitLen d.toNat else if 0 < c.toNat then 128 + Lib.bitLen c.toNat else if 0 < b.toNat then 64 + Lib.bitLen b.toNat else if 0 < a.toNat then Lib.bitLen a.toNat else 0
theorem bl_bounds (x : BitVec 64) (h : 0 < x.toNat) : 1 ≤ Lib.bitLen x.toNat ∧ 2 ^ (Lib.bitLen x.toNat - 1) ≤ x.toNat ∧ x.toNat < 2 ^ Lib.bitLen x.toNat := Lib.bitLenAux_bounds 64 _ x.isLt (by omega)
theorem wbits_part {n x k : Nat} (hn : n < M256) (B : Nat) (hB : B = 2 ^ k) (hx : x = n / B) (h0 : x ≠ 0) (b : Nat) (h1 : 1 ≤ b) (h2 : 2 ^ (b - 1) ≤ x) (h3 : x < 2 ^ b) : k + b = nbits n := by
  have hpos : 0 < B := by rw [hB]; exact Nat.pow_pos (by omega)
  have hn0 : n ≠ 0 := by rintro rfl; simp at hx; exact h0 hx
  obtain ⟨g1, g2, g3⟩ := nbits_bounds hn hn0
  refine bits_unique (n := n) ?_ ?_ g2 g3 (by omega) g1
  · have : k + b - 1 = (b - 1) + k := by omega
    rw [this, Nat.pow_add, ← hB]
    exact Nat.le_trans (Nat.mul_le_mul_right _ h2) (by rw [hx]; exact Nat.div_mul_le_self _ _)
  · rw [Nat.add_comm, Nat.pow_add, ← hB]
    rw [hx] at h3
    exact (Nat.div_lt_iff_lt_mul hpos).1 h3
theorem wbits_eq {n : Nat} (hn : n < M256) : wbits (nw n 0) (nw n 1) (nw n 2) (nw n 3) = nbits n := by
  unfold wbits
  have hM : M256 = 115792089237316195423570985008687907853269984665640564039457584007913129639936 := rfl
  by_cases h3 : 0 < (nw n 3).toNat
  · rw [if_pos h3]
    obtain ⟨g1, g2, g3⟩ := bl_bounds _ h3
    exact wbits_part hn (2 ^ 192) rfl (by rw [nw_toNat]; omega) (by omega) _ g1 g2 g3
  rw [if_neg h3]
  by_cases h2 : 0 < (nw n 2).toNat
  · rw [if_pos h2]
    obtain ⟨g1, g2, g3⟩ := bl_bounds _ h2
    exact wbits_part hn (2 ^ 128) rfl (by rw [nw_toNat] at h3 ⊢; omega) (by omega) _ g1 g2 g3
  rw [if_neg h2]
  by_cases h1 : 0 < (nw n 1).toNat
  · rw [if_pos h1]
    obtain ⟨g1, g2, g3⟩ := bl_bounds _ h1
    exact wbits_part hn (2 ^ 64) rfl (by rw [nw_toNat] at h3 h2 ⊢; omega) (by omega) _ g1 g2 g3
  rw [if_neg h1]
  by_cases h0 : 0 < (nw n 0).toNat
  · rw [if_pos h0]
    obtain ⟨g1, g2, g3⟩ := bl_bounds _ h0
    have := wbits_part (k := 0) hn 1 rfl (x := (nw n 0).toNat) (by rw [nw_toNat] at h3 h2 h1 ⊢; omega) (by omega) _ g1 g2 g3
    omega
  rw [if_neg h0]
  have : n = 0 := by simp only [nw_toNat] at h0 h1 h2 h3; omega
  rw [this, nbits_zero]

/-! ### sums -/
def wadd (a b c d a' b' c' d' : BitVec 64) : (BitVec 64 × BitVec 64 × BitVec 64 × BitVec 64) × BitVec 64 :=
  let f (x y k : BitVec 64) := (BitVec.ofNat 64 (x.toNat + y.toNat + k.toNat), BitVec.ofNat 64 ((x.toNat + y.toNat + k.toNat) / 18446744073709551616))
  let r0 := f a a' 0#64; let r1 := f b b' r0.2; let r2 := f c c' r1.2; let r3 := f d d' r2.2
  ((r0.1, r1.1, r2.1, r3.1), r3.2)
def wsub (a b c d a' b' c' d' : BitVec 64) : (BitVec 64 × BitVec 64 × BitVec 64 × BitVec 64) × BitVec 64 :=
  let f (x y k : BitVec 64) := (BitVec.ofNat 64 (x.toNat + 18446744073709551616 - y.toNat - k.toNat), BitVec.ofNat 64 (if x.toNat < y.toNat + k.toNat then 1 else 0))
  let r0 := f a a' 0#64; let r1 := f b b' r0.2; let r2 := f c c' r1.2; let r3 := f d d' r2.2
  ((r0.1, r1.1, r2.1, r3.1), r3.2)
theorem add_digit (x y k : Nat) (hx : x < 18446744073709551616) (hy : y < 18446744073709551616) (hk : k ≤ 1) :
    ∃ s b, (x + y + k) % 18446744073709551616 = s ∧ (x + y + k) / 18446744073709551616 = b ∧ s + 18446744073709551616 * b = x + y + k ∧ b ≤ 1 ∧ s < 18446744073709551616 :=
  ⟨_, _, rfl, rfl, by omega, by omega, by omega⟩
def w4 (a b c d : Nat) : Nat := a + 18446744073709551616 * (b + 18446744073709551616 * (c + 18446744073709551616 * d))
theorem w4_lt {a b c d : Nat} (ha : a < 18446744073709551616) (hb : b < 18446744073709551616) (hc : c < 18446744073709551616) (hd : d < 18446744073709551616) : w4 a b c d < M256 := by
  simp only [w4, M256]; omega
theorem mod_fin {S A A' b : Nat} (h : S + M256 * b = A + A') (hS : S < M256) : S = (A + A') % M256 ∧ (1 ≤ b ↔ M256 ≤ A + A') := by
  constructor
  · rw [← h, Nat.add_mul_mod_self_left, Nat.mod_eq_of_lt hS]
  · constructor
    · intro hb; have : M256 * 1 ≤ M256 * b := Nat.mul_le_mul_left _ hb; omega
    · intro hb
      rcases Nat.eq_zero_or_pos b with rfl | h' <;> omega
theorem wadd_eq (a b c d a' b' c' d' : BitVec 64) : wn (wadd a b c d a' b' c' d').1.1 (wadd a b c d a' b' c' d').1.2.1 (wadd a b c d a' b' c' d').1.2.2.1 (wadd a b c d a' b' c' d').1.2.2.2 = (wn a b c d + wn a' b' c' d') % M256 ∧
    ((wadd a b c d a' b' c' d').2 = 1#64 ↔ M256 ≤ wn a b c d + wn a' b' c' d') := by
  have h1 := a.isLt; have h2 := b.isLt; have h3 := c.isLt; have h4 := d.isLt; have h5 := a'.isLt; have h6 := b'.isLt; have h7 := c'.isLt; have h8 := d'.isLt
  obtain ⟨s0, b0, e0, f0, g0, i0, j0⟩ := add_digit a.toNat a'.toNat 0 h1 h5 (by omega)
  obtain ⟨s1, b1, e1, f1, g1, i1, j1⟩ := add_digit b.toNat b'.toNat b0 h2 h6 i0
  obtain ⟨s2, b2, e2, f2, g2, i2, j2⟩ := add_digit c.toNat c'.toNat b1 h3 h7 i1
  obtain ⟨s3, b3, e3, f3, g3, i3, j3⟩ := add_digit d.toNat d'.toNat b2 h4 h8 i2
  have m0 : b0 % 2 ^ 64 = b0 := by omega
  have m1 : b1 % 2 ^ 64 = b1 := by omega
  have m2 : b2 % 2 ^ 64 = b2 := by omega
  have m3 : b3 % 2 ^ 64 = b3 := by omega
  have z : (0#64).toNat = 0 := rfl
  have hone : (1#64).toNat = 1 := rfl
  have key : w4 s0 s1 s2 s3 + M256 * b3 = wn a b c d + wn a' b' c' d' := by simp only [w4, wn, M256]; omega
  have := mod_fin key (w4_lt j0 j1 j2 j3)
  constructor
  · rw [← this.1]; simp only [wadd, wn, BitVec.toNat_ofNat, z, e0, f0, m0, e1, f1, m1, e2, f2, m2, e3, w4]
  · rw [← this.2]; simp only [wadd, BitVec.toNat_ofNat, ← BitVec.toNat_inj, z, f0, m0, f1, m1, f2, m2, f3, m3, hone]; omega
theorem sub_digit (x y k : Nat) (hx : x < 18446744073709551616) (hy : y < 18446744073709551616) (hk : k ≤ 1) :
    ∃ s b, (x + 18446744073709551616 - y - k) % 18446744073709551616 = s ∧ (if x < y + k then 1 else 0) = b ∧ s + y + k = x + 18446744073709551616 * b ∧ b ≤ 1 ∧ s < 18446744073709551616 := by
  refine ⟨_, _, rfl, rfl, ?_⟩
  split <;> omega
theorem wsub_eq (a b c d a' b' c' d' : BitVec 64) : wn (wsub a b c d a' b' c' d').1.1 (wsub a b c d a' b' c' d').1.2.1 (wsub a b c d a' b' c' d').1.2.2.1 (wsub a b c d a' b' c' d').1.2.2.2 = (wn a b c d + M256 - wn a' b' c' d') % M256 ∧
    ((wsub a b c d a' b' c' d').2 = 1#64 ↔ wn a b c d < wn a' b' c' d') := by
  have h1 := a.isLt; have h2 := b.isLt; have h3 := c.isLt; have h4 := d.isLt; have h5 := a'.isLt; have h6 := b'.isLt; have h7 := c'.isLt; have h8 := d'.isLt
  obtain ⟨s0, b0, e0, f0, g0, i0, j0⟩ := sub_digit a.toNat a'.toNat 0 h1 h5 (by omega)
  obtain ⟨s1, b1, e1, f1, g1, i1, j1⟩ := sub_digit b.toNat b'.toNat b0 h2 h6 i0
  obtain ⟨s2, b2, e2, f2, g2, i2, j2⟩ := sub_digit c.toNat c'.toNat b1 h3 h7 i1
  obtain ⟨s3, b3, e3, f3, g3, i3, j3⟩ := sub_digit d.toNat d'.toNat b2 h4 h8 i2
  have m0 : b0 % 2 ^ 64 = b0 := by omega
  have m1 : b1 % 2 ^ 64 = b1 := by omega
  have m2 : b2 % 2 ^ 64 = b2 := by omega
  have m3 : b3 % 2 ^ 64 = b3 := by omega
  have z : (0#64).toNat = 0 := rfl
  have hone : (1#64).toNat = 1 := rfl
  have key : w4 s0 s1 s2 s3 + wn a' b' c' d' = wn a b c d + M256 * b3 := by simp only [w4, wn, M256]; omega
  have hlt := w4_lt j0 j1 j2 j3
  have hA := wn_lt a b c d
  have hA' := wn_lt a' b' c' d'
  have e : wn (wsub a b c d a' b' c' d').1.1 (wsub a b c d a' b' c' d').1.2.1 (wsub a b c d a' b' c' d').1.2.2.1 (wsub a b c d a' b' c' d').1.2.2.2 = w4 s0 s1 s2 s3 := by
    simp only [wsub, wn, BitVec.toNat_ofNat, z, e0, f0, m0, e1, f1, m1, e2, f2, m2, e3, w4]
  have e' : (wsub a b c d a' b' c' d').2 = 1#64 ↔ b3 = 1 := by
    simp only [wsub, BitVec.toNat_ofNat, ← BitVec.toNat_inj, z, f0, m0, f1, m1, f2, m2, f3, m3, hone]
  rw [e, e']
  generalize wn a b c d = A at *
  generalize wn a' b' c' d' = A' at *
  generalize w4 s0 s1 s2 s3 = S at *
  generalize M256 = M at *
  have hb : b3 = 0 ∨ b3 = 1 := by omega
  rcases hb with rfl | rfl
  · refine ⟨?_, by omega⟩
    have : A + M - A' = S + M := by omega
    rw [this, Nat.add_mod_right, Nat.mod_eq_of_lt hlt]
  · refine ⟨?_, by omega⟩
    have : A + M - A' = S := by omega
    rw [this, Nat.mod_eq_of_lt hlt]
end Go.V
