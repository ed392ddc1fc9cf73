/- Numbers of four words. -/
import Derived.Test.YtjoniieoaokimaaGreatVBld
set_option linter.unusedVariables false
set_option linter.unusedSimpArgs false
set_option linter.unusedSectionVars false
set_option autoImplicit true
set_option relaxedAutoImplicit true
namespace Go.V
/-- word i of a number -/
def nw (n i : Nat) : BitVec 64 := BitVec.ofNat 64 (n / 2 ^ (64 * i))
theorem nw_toNat (n i : Nat) : (nw n i).toNat = n / 2 ^ (64 * i) % 2 ^ 64 := by simp [nw]
def wn (a b c d : BitVec 64) : Nat := a.toNat + 18446744073709551616 * (b.toNat + 18446744073709551616 * (c.toNat + 18446744073709551616 * d.toNat))
/-- four words -/
abbrev wide (a b c d : BitVec 64) : List Part := [P1 (bv .u64 a), P1 (bv .u64 b), P1 (bv .u64 c), P1 (bv .u64 d)]
abbrev wideN (n : Nat) : List Part := [P1 (bv .u64 (nw n 0)), P1 (bv .u64 (nw n 1)), P1 (bv .u64 (nw n 2)), P1 (bv .u64 (nw n 3))]
abbrev vW (n : Nat) : Value := vagg (wideN n)
def M256 : Nat := 2 ^ 256
theorem wn_lt (a b c d : BitVec 64) : wn a b c d < M256 := by
  have := a.isLt; have := b.isLt; have := c.isLt; have := d.isLt
  simp only [wn, M256]; omega
theorem nw_wn0 (a b c d : BitVec 64) : nw (wn a b c d) 0 = a := by
  apply BitVec.eq_of_toNat_eq; rw [nw_toNat]; have := a.isLt; simp only [wn]; omega
theorem nw_wn1 (a b c d : BitVec 64) : nw (wn a b c d) 1 = b := by
  apply BitVec.eq_of_toNat_eq; rw [nw_toNat]; have := a.isLt; have := b.isLt; simp only [wn]; omega
theorem nw_wn2 (a b c d : BitVec 64) : nw (wn a b c d) 2 = c := by
  apply BitVec.eq_of_toNat_eq; rw [nw_toNat]; have := a.isLt; have := b.isLt; have := c.isLt; simp only [wn]; omega
theorem nw_wn3 (a b c d : BitVec 64) : nw (wn a b c d) 3 = d := by
  apply BitVec.eq_of_toNat_eq; rw [nw_toNat]; have := a.isLt; have := b.isLt; have := c.isLt; have := d.isLt; simp only [wn]; omega
theorem wide_wn (a b c d : BitVec 64) : wide a b c d = wideN (wn a b c d) := by
  simp only [wide, wideN, nw_wn0, nw_wn1, nw_wn2, nw_wn3]
theorem wn_nw {n : Nat} (h : n < M256) : wn (nw n 0) (nw n 1) (nw n 2) (nw n 3) = n := by
  simp only [wn, nw_toNat, M256] at *; omega
theorem vW_eq {a b c d : BitVec 64} {n : Nat} (h : wn a b c d = n) : vagg (wide a b c d) = vW n := by subst h; rw [wide_wn]

section
variable {P : Program} {ops : Array Oper} {Q : Exit → Act → World → Prop} {K : Act → World → Prop} {n : Nat} {D : List Deferred} {E : Env} {σ : Bs} {M M' N : List Seg}
variable {ty : TypeId} {pos : String} {after : Array Edge} {x y z : Operand} {S : World → Prop}
/-- a block's content, spelled otherwise -/
theorem j_obj (b : Nat) {T i : Nat} {ps ps' : List Part} [hp : Pos b (obj T ps) M i] (he : ps = ps') (hs : setSeg M i [(b, obj T ps')] [] = some M') (h : J n D E σ M' K) : J n D E σ M K := by
  subst he
  have hu := pos_upd hp hs
  have key : ∀ {M M' : List Seg} {o : Obj}, Upd b o o M M' → M = M' := by
    intro M M' o h
    generalize ho : o = o' at h
    induction h with
    | here => subst ho; rfl
    | there _ ih => rw [ih]
    | at_ => subst ho; rfl
  rw [key hu]
  exact h

theorem cell_wide {m i : Nat} (hi : i < 4) : cellAt (wideN m) i = some (bv .u64 (nw m i)) := by
  have : i = 0 ∨ i = 1 ∨ i = 2 ∨ i = 3 := by omega
  rcases this with rfl | rfl | rfl | rfl <;> rfl
/-- a word of a number, at whatever place -/
theorem lW {T b off T0 m : Nat} (i : Nat) (hA : ∀ w, (isAgg T).run P w = .ok false w) (hx : val E x = some (.pointer (some ⟨b, off, none⟩))) [hm : InS b (obj T0 (wideN m)) N] (ho : off = i) (hi : i < 4) :
    Yl P (Pts N) E (.load T x) (bv .u64 (nw m i)) := y_load1 hA hx (mem_pts hm) (by rw [ho]; exact cell_wide hi)
theorem putAt_wide {m m' i : Nat} {X : BitVec 64} (hi : i < 4) (h : ∀ j, j < 4 → nw m' j = if j = i then X else nw m j) : putAt (wideN m) i 1 [P1 (bv .u64 X)] [] = some (wideN m') := by
  have h0 := h 0 (by omega)
  have h1 := h 1 (by omega)
  have h2 := h 2 (by omega)
  have h3 := h 3 (by omega)
  have : i = 0 ∨ i = 1 ∨ i = 2 ∨ i = 3 := by omega
  rcases this with rfl | rfl | rfl | rfl <;> simp at h0 h1 h2 h3 <;> simp only [wideN, h0, h1, h2, h3] <;> rfl
/-- a word is put -/
theorem stW {T T0 b off i m : Nat} {X : BitVec 64} (j m' : Nat) (hm : ∀ w, (sizeOf T).run P w = .ok 1 w) (hx : val E x = some (.pointer (some ⟨b, off, none⟩))) (hy : val E y = some (bv .u64 X))
    [hu : Pos b (obj T0 (wideN m)) M i] (ho : off = j) (hj : j < 4) (hw : ∀ q, q < 4 → nw m' q = if q = j then X else nw m q) (hs : setSeg M i [(b, obj T0 (wideN m'))] [] = some M')
    (h : J n D E σ M' K) : J n D E σ M (Op1 P ops Q ⟨none, .store T x y, ty, pos, after, none⟩ K) :=
  o_store hm hx hy (.one (v := bv .u64 X) rfl) (pos_upd hu hs) (by rw [ho]; exact putAt_wide hj hw) rfl h
end

/-! ### words and numbers -/
theorem wcmp_eq (n m : Nat) (hn : n < M256) (hm : m < M256) :
    (if (nw n 3).toNat < (nw m 3).toNat then (-1 : Int) else if (nw m 3).toNat < (nw n 3).toNat then 1 else if (nw n 2).toNat < (nw m 2).toNat then -1 else if (nw m 2).toNat < (nw n 2).toNat then 1 else
      if (nw n 1).toNat < (nw m 1).toNat then -1 else if (nw m 1).toNat < (nw n 1).toNat then 1 else if (nw n 0).toNat < (nw m 0).toNat then -1 else if (nw m 0).toNat < (nw n 0).toNat then 1 else 0) =
    if n < m then -1 else if m < n then 1 else 0 := by
  simp only [nw_toNat, M256] at *
  repeat' split
  all_goals omega
end Go.V
