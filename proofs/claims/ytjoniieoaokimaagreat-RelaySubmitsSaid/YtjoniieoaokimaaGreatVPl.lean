/- What always holds of a tree to which blocks were added; depths along its best chain. -/
import Derived.Test.YtjoniieoaokimaaGreatVLw4
import Derived.Test.YtjoniieoaokimaaGreatVRow
set_option linter.unusedVariables false
set_option linter.unusedSimpArgs false
set_option linter.unusedSectionVars false
set_option autoImplicit true
set_option relaxedAutoImplicit true
set_option maxRecDepth 100000
set_option maxHeartbeats 1000000
namespace Go.Proofs
open V
/-! ### the rules of the laws are right -/
theorem first_all : (decT firstH.bits, checkH firstH (decT 545259519#32)) = (8388607 * 2 ^ 232, 0) := by kernel_rfl
theorem first_ok : checkH firstH (decT 545259519#32) = 0 := (Prod.mk.inj first_all).2
theorem dec_lim : decT 545259519#32 = 8388607 * 2 ^ 232 := by kernel_rfl
theorem rules_ok (e : Int) (sp : BitVec 32) (c : Int) : checkR (rulesR e sp c) = 0 := by
  have h6 := umod_lt (BitVec.ofInt 64 e) 6#64 6 rfl (by decide)
  have h4 := umod_lt (BitVec.ofInt 64 c) 4#64 4 rfl (by decide)
  have h1 : (sp % 1000#32).toNat < 1000 := by rw [BitVec.toNat_umod]; exact Nat.mod_lt _ (by decide)
  have h2 : (1#32 + sp % 1000#32).toNat = 1 + (sp % 1000#32).toNat := by rw [BitVec.toNat_add, show (1#32).toNat = 1 from rfl, Nat.mod_eq_of_lt (by omega)]
  unfold checkR
  rw [if_neg, if_neg]
  · exact first_ok
  · show ¬ decT 545259519#32 = 0
    rw [dec_lim]; decide
  · simp only [rulesR, h2]
    have : (2147483648#32).toNat = 2147483648 := rfl
    have : (1#32).toNat = 1 := rfl
    omega
/-! ### no two blocks of a tree have one hash -/
def Inj (L : List Nd) : Prop := ∀ i, i < L.length → findT L (hashH (nd L i).h) = some i
theorem findF_app (k : H32) (x : Nd) : ∀ (L : List Nd) (j : Nat), findF k (L ++ [x]) j = match findF k L j with
    | some q => some q
    | none => if k = hashH x.h then some (j + L.length) else none
  | [], j => rfl
  | y :: L, j => by
    simp only [List.cons_append, findF]
    split
    · rfl
    · rw [findF_app k x L (j + 1), List.length_cons, show j + 1 + L.length = j + (L.length + 1) from by omega]
theorem findT_add {L : List Nd} {h : Hd} {i : Nat} (k : H32) : findT (addL L h i) k = match findT L k with
    | some q => some q
    | none => if k = hashH h then some L.length else none := by
  rw [findT, addL, findF_app, findF_bump, bumpK_len, Nat.zero_add]; rfl
theorem inj_new (r : Rl) : Inj (newS r).L := fun i hi => by
  have : i = 0 := by simpa [newS] using hi
  subst this
  simp [findT, findF, newS, nd]
theorem inj_put {L : List Nd} (hL : Inj L) {h : Hd} {i : Nat} (hi : i < L.length) (hn : findT L (hashH h) = none) : Inj (addL L h i) := fun j hj => by
  rw [addL_len] at hj
  by_cases hjl : j < L.length
  · rw [nd_add_h hi hjl, findT_add, hL j hjl]
  · have : j = L.length := by omega
    subst this
    rw [nd_add_new, findT_add]
    show (match findT L (hashH h) with
      | some q => some q
      | none => if hashH h = hashH h then some L.length else none) = _
    rw [hn]; simp
theorem add_cases (s : TS) (h : Hd) : (¬ s.err h = 0 ∧ s.add h = s) ∨ ∃ i, s.err h = 0 ∧ findT s.L (hashH h) = none ∧ findT s.L h.ahead = some i ∧ checkT s.r s.L s.tips h i = 0 ∧ s.add h = s.put h i := by
  by_cases he : s.err h = 0
  · right
    have he2 := he
    unfold TS.err at he
    cases hf : findT s.L (hashH h) with
    | some q => rw [hf] at he; cases he
    | none =>
      rw [hf] at he
      cases hf2 : findT s.L h.ahead with
      | none => rw [hf2] at he; cases he
      | some i =>
        rw [hf2] at he
        exact ⟨i, he2, rfl, rfl, he, add_good he2 hf2⟩
  · exact .inl ⟨he, add_bad he⟩
theorem inj_add {s : TS} (hL : Inj s.L) (h : Hd) : Inj (s.add h).L := by
  rcases add_cases s h with ⟨_, h2⟩ | ⟨i, _, h2, h3, _, h5⟩
  · rw [h2]; exact hL
  · rw [h5]; exact inj_put hL (findT_spec h3).1 h2
/-! ### depths -/
theorem height_ch {s : TS} (c : ChOk s.L s.ch) (hI : Inj s.L) {i : Nat} (hi : i < s.ch.length) : heightT s.L (hashH (nd s.L (s.ch.getD i 0)).h) = (i : Int) := by
  have e := hI _ (c.lt i hi)
  simp only [heightT, e]
  rw [c.ht i hi]
theorem height_best {s : TS} (c : ChOk s.L s.ch) (hI : Inj s.L) : heightT s.L (bestH s) = (s.ch.length : Int) - 1 := by
  have := c.ne
  rw [bestH, bestI, height_ch c hI (by omega)]; omega
theorem at_ch {s : TS} {i : Nat} (hi : i < s.ch.length) : atT s.L s.ch (i : Int) = (hashH (nd s.L (s.ch.getD i 0)).h, true) := by
  unfold atT
  rw [if_neg (by omega), if_neg (by omega), Int.toNat_natCast]
theorem depth_ch {s : TS} (c : ChOk s.L s.ch) (hI : Inj s.L) {i : Nat} (hi : i < s.ch.length) : depthT s (hashH (nd s.L (s.ch.getD i 0)).h) = (s.ch.length : Int) - i := by
  unfold depthT
  rw [if_neg (by rw [hI _ (c.lt i hi)]; simp), height_ch c hI hi, at_ch hi, if_neg (by simp), if_pos rfl, height_best c hI]
  omega
theorem depth_best {s : TS} (c : ChOk s.L s.ch) (hI : Inj s.L) : depthT s (bestH s) = 1 := by
  have := c.ne
  rw [bestH, bestI, depth_ch c hI (by omega)]; omega
theorem lineH_mem {s : TS} {h : H32} : h ∈ lineH s ↔ ∃ i, i < s.ch.length ∧ hashH (nd s.L (s.ch.getD i 0)).h = h := by
  simp only [lineH, List.mem_map, List.mem_range]
theorem depth_out {s : TS} (hL : LOk s.L) {h : H32} (hn : ¬ h ∈ lineH s) : depthT s h = 0 := by
  unfold depthT
  split
  · rfl
  · split
    · rfl
    · rename_i h1 h2
      split
      · rename_i h3
        exfalso
        have hb := heightT_bd hL h
        unfold atT at h2 h3
        rw [if_neg (by omega)] at h2 h3
        split at h2
        · exact h2 rfl
        · rename_i h4
          rw [if_neg h4] at h3
          exact hn (lineH_mem.2 ⟨(heightT s.L h).toNat, by omega, h3⟩)
      · rfl
