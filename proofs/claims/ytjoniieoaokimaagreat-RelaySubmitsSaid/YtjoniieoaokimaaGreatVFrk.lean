/- Where two chains part; how deep a turn was; what is confirmed stays. -/
import Derived.Test.YtjoniieoaokimaaGreatVPl
set_option linter.unusedVariables false
set_option linter.unusedSimpArgs false
set_option linter.unusedSectionVars false
set_option autoImplicit true
set_option relaxedAutoImplicit true
set_option maxRecDepth 100000
set_option maxHeartbeats 1000000
namespace Go.Proofs
open V
theorem mem_at {l : List Nat} {k : Nat} (h : k ∈ l) : ∃ m, m < l.length ∧ l.getD m 0 = k := by
  obtain ⟨m, hm, e⟩ := List.getElem_of_mem h
  exact ⟨m, hm, by simp [List.getD, List.getElem?_eq_getElem hm, e]⟩
theorem at_mem {l : List Nat} {m : Nat} (h : m < l.length) : l.getD m 0 ∈ l := by
  simp [List.getD, List.getElem?_eq_getElem h]
theorem ch_line {L : List Nd} {ch : List Nat} (c : ChOk L ch) : ch = lineI L (bestI ch) := by
  have h := c.ne
  have := line_take c (ch.length - 1) (by omega)
  rw [Nat.sub_add_cancel h, List.take_length] at this
  exact this
theorem mem_line {L : List Nd} (ok : LOk L) {i k : Nat} (hi : i < L.length) (h : k ∈ lineI L i) :
    k < L.length ∧ (nd L k).height ≤ (nd L i).height ∧ ((nd L k).height = (nd L i).height → k = i) ∧ lineI L k = (lineI L i).take ((nd L k).height + 1) := by
  obtain ⟨c1, c2, c3⟩ := line_ok ok i hi
  obtain ⟨m, hm, e⟩ := mem_at h
  have h1 := c1.ht m hm
  rw [e] at h1
  have h2 := line_take c1 m hm
  rw [e] at h2
  have h3 := c1.lt m hm
  rw [e] at h3
  refine ⟨h3, by omega, fun hh => ?_, by rw [h1, h2]⟩
  have h4 : m = (lineI L i).length - 1 := by omega
  rw [← e, h4]; exact c3
theorem self_line {L : List Nd} (ok : LOk L) {i : Nat} (hi : i < L.length) : i ∈ lineI L i := by
  obtain ⟨c1, c2, c3⟩ := line_ok ok i hi
  have := at_mem (l := lineI L i) (m := (lineI L i).length - 1) (by omega)
  rwa [c3] at this
theorem fork_mem {L : List Nd} (ok : LOk L) : ∀ n i j, i < L.length → j < L.length → hsum L i j ≤ n → ∀ k, (k ∈ lineI L (forkI L n i j) ↔ k ∈ lineI L i ∧ k ∈ lineI L j)
  | 0, i, j, hi, hj, hn, k => by
    unfold hsum at hn
    have h1 := height_zero ok hi (by omega)
    have h2 := height_zero ok hj (by omega)
    subst h1 h2
    simp [forkI]
  | n + 1, i, j, hi, hj, hn, k => by
    unfold hsum at hn
    rw [forkI]
    by_cases hij : i = j
    · subst hij; rw [if_pos rfl]; simp
    · rw [if_neg hij]
      by_cases hh : (nd L j).height ≤ (nd L i).height
      · rw [if_pos hh]
        have hp : 0 < (nd L i).height := by
          rcases Nat.eq_zero_or_pos (nd L i).height with h0 | h0
          · exact absurd ((height_zero ok hi h0).trans (height_zero ok hj (by omega)).symm) hij
          · exact h0
        obtain ⟨a, h1, h2, h3⟩ := ahead_some ok hi hp
        rw [h1, Option.getD_some, fork_mem ok n a j (by omega) hj (by unfold hsum; omega) k, line_step h1 h3, List.mem_append, List.mem_singleton]
        constructor
        · exact fun h => ⟨.inl h.1, h.2⟩
        · rintro ⟨h4 | h4, h5⟩
          · exact ⟨h4, h5⟩
          · subst h4
            have := mem_line ok hj h5
            exact absurd (this.2.2.1 (by omega)) hij
      · rw [if_neg hh]
        obtain ⟨a, h1, h2, h3⟩ := ahead_some ok hj (by omega)
        rw [h1, Option.getD_some, fork_mem ok n i a hi (by omega) (by unfold hsum; omega) k, line_step h1 h3, List.mem_append, List.mem_singleton]
        constructor
        · exact fun h => ⟨h.1, .inl h.2⟩
        · rintro ⟨h5, h4 | h4⟩
          · exact ⟨h5, h4⟩
          · subst h4
            have := mem_line ok hi h5
            omega
/-- a new block changes no chain of those that are there -/
theorem line_add {L : List Nd} (ok : LOk L) (h : Hd) {i : Nat} (hi : i < L.length) : ∀ j, j < L.length → lineI (addL L h i) j = lineI L j := by
  intro j
  induction j using Nat.strongRecOn with
  | _ j ih =>
    intro hj
    rcases Nat.eq_zero_or_pos j with rfl | h0
    · rw [line_zero ok.root.2, line_zero (by rw [nd_add_height hi ok.pos]; exact ok.root.2)]
    · obtain ⟨q, h1, h2, h3⟩ := ok.step j h0 hj
      rw [line_step h1 h3, line_step (L := addL L h i) (j := q) (by rw [nd_add_ahead hi hj]; exact h1) (by rw [nd_add_height hi hj, nd_add_height hi (by omega)]; exact h3), ih q h2 (by omega)]
theorem lineH_map (s : TS) : lineH s = s.ch.map fun k => hashH (nd s.L k).h := by
  refine List.ext_getElem (by simp [lineH]) fun i h1 h2 => ?_
  simp only [List.length_map] at h2
  simp [lineH, List.getD, List.getElem?_eq_getElem h2]
theorem inj_eq {L : List Nd} (hI : Inj L) {i j : Nat} (hi : i < L.length) (hj : j < L.length) (h : hashH (nd L i).h = hashH (nd L j).h) : i = j := by
  have h1 := hI i hi
  rw [h, hI j hj] at h1
  exact (Option.some.inj h1).symm
/-- all that is told of a block that is taken -/
structure AddF (s : TS) (h : Hd) (i : Nat) : Prop where
  he : s.err h = 0
  hn : findT s.L (hashH h) = none
  hi : findT s.L h.ahead = some i
  il : i < s.L.length
  hc : checkT s.r s.L s.tips h i = 0
  ha : s.add h = s.put h i
  ok : LOk (s.add h).L
  ck : ChOk (s.add h).L (s.add h).ch
  inj : Inj (s.add h).L
theorem put_L (s : TS) (h : Hd) (i : Nat) : (s.put h i).L = addL s.L h i := rfl
theorem add_fact {s : TS} {h : Hd} (ok : LOk s.L) (c : ChOk s.L s.ch) (hI : Inj s.L) (he : s.err h = 0) : ∃ i, AddF s h i := by
  rcases add_cases s h with ⟨h1, _⟩ | ⟨i, h1, h2, h3, h4, h5⟩
  · exact absurd he h1
  · have hi := (findT_spec h3).1
    have hok : LOk (addL s.L h i) := addL_ok ok h hi (check_big h4)
    have hck : ChOk (s.put h i).L (s.put h i).ch := by
      by_cases hw : (nd s.L (bestI s.ch)).work < (newNd s.L h i).work
      · rw [put_turn hw]
        exact (line_ok hok s.L.length (by rw [addL_len]; omega)).1
      · rw [put_stay hw]
        exact addCh_ok c h hi
    exact ⟨i, he, h2, h3, hi, h4, h5, by rw [h5]; exact hok, by rw [h5]; exact hck, by rw [h5]; exact inj_put hI hi h2⟩
/-- a turn, or none -/
theorem add_turn {s : TS} {h : Hd} {i : Nat} (c : ChOk s.L s.ch) (f : AddF s h i) :
    ((nd s.L (bestI s.ch)).work < (newNd s.L h i).work ∧ (s.add h).ch = lineI (s.add h).L s.L.length ∧ bestI (s.add h).ch = s.L.length ∧ bestH (s.add h) = hashH h ∧ (s.add h).ch.length = (nd s.L i).height + 2)
    ∨ (¬ (nd s.L (bestI s.ch)).work < (newNd s.L h i).work ∧ (s.add h).ch = s.ch ∧ bestH (s.add h) = bestH s ∧ ¬ bestH (s.add h) = hashH h) := by
  have hL : (s.add h).L = addL s.L h i := by rw [f.ha]; rfl
  have hlt : s.L.length < (addL s.L h i).length := by rw [addL_len]; omega
  by_cases hw : (nd s.L (bestI s.ch)).work < (newNd s.L h i).work
  · left
    have e : (s.add h).ch = lineI (s.add h).L s.L.length := by rw [f.ha, put_turn hw]
    have hok := f.ok
    obtain ⟨c1, c2, c3⟩ := line_ok hok s.L.length (by rw [hL]; exact hlt)
    have e2 : bestI (s.add h).ch = s.L.length := by rw [bestI, e]; exact c3
    refine ⟨hw, e, e2, ?_, ?_⟩
    · rw [bestH, e2, hL, nd_add_new]; rfl
    · rw [e, c2, hL, nd_add_new]; rfl
  · right
    have e : (s.add h).ch = s.ch := by rw [f.ha, put_stay hw]
    have hb := bestI_lt c
    have e2 : bestH (s.add h) = bestH s := by rw [bestH, e, hL, nd_add_h f.il hb]; rfl
    refine ⟨hw, e, e2, fun h3 => ?_⟩
    rw [e2] at h3
    have h4 := f.inj (bestI s.ch) (by rw [hL]; omega)
    rw [hL, nd_add_h f.il hb, show hashH (nd s.L (bestI s.ch)).h = hashH h from h3, findT_add, f.hn, if_pos rfl] at h4
    have := Option.some.inj h4
    omega
theorem find_new {s : TS} {h : Hd} {i : Nat} (f : AddF s h i) : findT (s.add h).L (hashH h) = some s.L.length := by
  rw [show (s.add h).L = addL s.L h i by rw [f.ha]; rfl, findT_add, f.hn]; exact if_pos rfl
theorem find_old {s : TS} {h : Hd} {i k : Nat} (f : AddF s h i) (hI : Inj s.L) (hk : k < s.L.length) : findT (s.add h).L (hashH (nd s.L k).h) = some k := by
  rw [show (s.add h).L = addL s.L h i by rw [f.ha]; rfl, findT_add, hI k hk]
theorem best_height {L : List Nd} {ch : List Nat} (c : ChOk L ch) : (nd L (bestI ch)).height = ch.length - 1 := c.ht _ (by have := c.ne; omega)
/-- the chain that was, and where it parts from the one that is -/
theorem fork_fact {s : TS} {h : Hd} {i : Nat} (ok : LOk s.L) (c : ChOk s.L s.ch) (hI : Inj s.L) (f : AddF s h i) (ht : (s.add h).ch = lineI (s.add h).L s.L.length) (hb : bestH (s.add h) = hashH h) :
    ∃ q : Nat, q < s.ch.length ∧ turnedT s h = (s.ch.length : Int) - 1 - q ∧ (∀ m, m < s.ch.length → (s.ch.getD m 0 ∈ (s.add h).ch ↔ m ≤ q)) := by
  have hL : (s.add h).L = addL s.L h i := by rw [f.ha]; rfl
  have hlt : s.L.length < (s.add h).L.length := by rw [hL, addL_len]; omega
  have hbl := bestI_lt c
  have hbl' : bestI s.ch < (s.add h).L.length := by omega
  have hline : s.ch = lineI (s.add h).L (bestI s.ch) := by
    conv => lhs; rw [ch_line c]
    rw [hL, line_add ok h f.il _ hbl]
  have fm := fork_mem f.ok (hsum (s.add h).L (bestI s.ch) s.L.length) (bestI s.ch) s.L.length hbl' hlt (Nat.le_refl _)
  have hfl := forkI_lt f.ok (hsum (s.add h).L (bestI s.ch) s.L.length) (bestI s.ch) s.L.length hbl' hlt
  have hself := (fm _).1 (self_line f.ok hfl)
  have hm1 := mem_line f.ok hbl' hself.1
  have hbh : (nd (s.add h).L (bestI s.ch)).height = s.ch.length - 1 := by rw [hL, nd_add_height f.il hbl]; exact best_height c
  have hne := c.ne
  refine ⟨(nd (s.add h).L (forkI (s.add h).L (hsum (s.add h).L (bestI s.ch) s.L.length) (bestI s.ch) s.L.length)).height, by omega, ?_, fun m hm => ?_⟩
  · unfold turnedT
    rw [if_pos hb]
    have e1 := find_old f hI hbl
    have e2 := find_new f
    simp only [heightT, forkT, show bestH s = hashH (nd s.L (bestI s.ch)).h from rfl, e1, e2, hbh]
    omega
  · have hmem := at_mem hm
    have hmh : (nd (s.add h).L (s.ch.getD m 0)).height = m := by rw [hL, nd_add_height f.il (c.lt m hm)]; exact c.ht m hm
    rw [ht]
    constructor
    · intro h1
      have h2 := (fm (s.ch.getD m 0)).2 ⟨by rw [← hline]; exact hmem, h1⟩
      have h3 := (mem_line f.ok hfl h2).2.1
      omega
    · intro h1
      refine ((fm (s.ch.getD m 0)).1 ?_).2
      rw [hm1.2.2.2, ← hline]
      rw [show s.ch.getD m 0 = (s.ch.take ((nd (s.add h).L (forkI (s.add h).L (hsum (s.add h).L (bestI s.ch) s.L.length) (bestI s.ch) s.L.length)).height + 1)).getD m 0 by
        simp only [List.getD]; rw [List.getElem?_take_of_lt (by omega)]]
      exact at_mem (by rw [List.length_take]; omega)
theorem filter_split {l : List Nat} {p : Nat → Bool} {q : Nat} (hq : q < l.length) (h : ∀ m, m < l.length → (p (l.getD m 0) = true ↔ q < m)) : (l.filter p).length = l.length - 1 - q := by
  have e : l = l.take (q + 1) ++ l.drop (q + 1) := (List.take_append_drop _ _).symm
  have h1 : (l.take (q + 1)).filter p = [] := by
    rw [List.filter_eq_nil_iff]
    intro a ha
    obtain ⟨m, hm, e1⟩ := List.getElem_of_mem ha
    rw [List.length_take] at hm
    have e2 : l.getD m 0 = a := by rw [← e1]; simp [List.getD, List.getElem?_eq_getElem (show m < l.length by omega)]
    rw [← e2]
    intro h3
    have := (h m (by omega)).1 h3
    omega
  have h2 : (l.drop (q + 1)).filter p = l.drop (q + 1) := by
    rw [List.filter_eq_self]
    intro a ha
    obtain ⟨m, hm, e1⟩ := List.getElem_of_mem ha
    rw [List.length_drop] at hm
    have e2 : l.getD (q + 1 + m) 0 = a := by rw [← e1]; simp [List.getD, List.getElem?_eq_getElem (show q + 1 + m < l.length by omega)]
    rw [← e2]
    exact (h _ (by omega)).2 (by omega)
  conv => lhs; rw [e, List.filter_append, h1, h2]
  simp; omega
theorem turnedH_len (s s' : TS) (hL : ∀ k, k ∈ s.ch → ((hashH (nd s.L k).h) ∈ lineH s' ↔ k ∈ s'.ch)) : turnedH (lineH s) (lineH s') = (s.ch.filter fun k => !decide (k ∈ s'.ch)).length := by
  rw [turnedH, lineH_map s, List.filter_map, List.length_map]
  congr 1
  refine List.filter_congr fun k hk => ?_
  simp only [Function.comp, hL k hk]
theorem lineH_in {s s' : TS} (hI : Inj s'.L) (c : ChOk s'.L s'.ch) {k : Nat} {x : H32} (hk : k < s'.L.length) (e : hashH (nd s'.L k).h = x) : x ∈ lineH s' ↔ k ∈ s'.ch := by
  rw [lineH_mem]
  constructor
  · rintro ⟨i, h1, h2⟩
    have := inj_eq hI (c.lt i h1) hk (h2.trans e.symm)
    rw [← this]; exact at_mem h1
  · intro h
    obtain ⟨m, h1, h2⟩ := mem_at h
    exact ⟨m, h1, by rw [h2]; exact e⟩
/-- how deep a turn was is what the chains show -/
theorem turned_eq {s : TS} {h : Hd} (ok : LOk s.L) (c : ChOk s.L s.ch) (hI : Inj s.L) (he : s.err h = 0) : turnedT s h = (turnedH (lineH s) (lineH (s.add h)) : Int) := by
  obtain ⟨i, f⟩ := add_fact ok c hI he
  have hL : (s.add h).L = addL s.L h i := by rw [f.ha]; rfl
  have hmem : ∀ k, k ∈ s.ch → ((hashH (nd s.L k).h) ∈ lineH (s.add h) ↔ k ∈ (s.add h).ch) := fun k hk => by
    obtain ⟨m, h1, h2⟩ := mem_at hk
    have hlt := c.lt m h1
    rw [h2] at hlt
    exact lineH_in (s := s) f.inj f.ck (by rw [hL, addL_len]; omega) (by rw [hL, nd_add_h f.il hlt])
  rw [turnedH_len s (s.add h) hmem]
  rcases add_turn c f with ⟨h1, h2, h3, h4, _⟩ | ⟨h1, h2, h3, h4⟩
  · obtain ⟨q, q1, q2, q3⟩ := fork_fact ok c hI f h2 h4
    rw [filter_split q1 (fun m hm => by
      have := q3 m hm
      simp only [Bool.not_eq_true', decide_eq_false_iff_not, this]; omega), q2]
    omega
  · rw [turnedT, if_neg h4, h2]
    have : (s.ch.filter fun k => !decide (k ∈ s.ch)) = [] := by
      rw [List.filter_eq_nil_iff]
      intro a ha
      simp [ha]
    rw [this]; rfl
/-! ### what is confirmed stays -/
def bits0 : BitVec 32 := 545259519#32
theorem work0 : workT (decT bits0) = 2 := by
  rw [bits0, dec_lim, workT, M256]
  decide +kernel
theorem ar1 {T C : Int} {l p q : Nat} (h1 : T = l - 1 - p) (h2 : T < C) (h3 : C ≤ l - q) : q ≤ p := by omega
theorem ar2 {l l' H w : Nat} (h0 : 0 < l) (h1 : 2 * (l - 1 + 1) < w) (h2 : w ≤ 2 * (H + 2)) (h3 : l' = H + 2) : l < l' := by omega
theorem ar3 {C : Int} {l l' q : Nat} (h1 : C ≤ l - q) (h2 : l < l') : C ≤ l' - q := by omega
theorem work_of {h : Hd} (e : h.bits = bits0) : workN h = 2 := by rw [workN, e]; exact work0
/-- no block's bits are others than the first one's -/
structure Flat (s : TS) (m : Nat) : Prop where
  every : s.r.every = 2016
  len : s.L.length ≤ m
  small : m ≤ 100
  bits : ∀ i, i < s.L.length → (nd s.L i).h.bits = bits0
  work : ∀ i, i < s.L.length → (nd s.L i).work = 2 * ((nd s.L i).height + 1)
theorem flat_new {r : Rl} (h1 : r.every = 2016) (h2 : r.first.bits = bits0) : Flat (newS r) 1 where
  every := h1
  len := Nat.le_refl _
  small := by decide
  bits i hi := by
    have : i = 0 := by simpa [newS] using hi
    subst this; exact h2
  work i hi := by
    have : i = 0 := by simpa [newS] using hi
    subst this; exact work_of h2
theorem Flat.more {s : TS} {m : Nat} (f : Flat s m) (hm : m + 1 ≤ 100) : Flat s (m + 1) := ⟨f.every, by have := f.len; omega, hm, f.bits, f.work⟩
theorem flat_bits {s : TS} {m i : Nat} (f : Flat s m) (ok : LOk s.L) (hi : i < s.L.length) : bitsT s.r s.L i = (bits0, 0) := by
  have h1 := height_le ok i hi
  have h2 := f.len
  have h3 := f.small
  unfold bitsT
  rw [if_neg, f.bits i hi]
  simp only [dueR, f.every, Bool.and_eq_true, decide_eq_true_eq]
  omega
theorem flat_add {s : TS} {m : Nat} (f : Flat s m) (ok : LOk s.L) (hm : m + 1 ≤ 100) (h : Hd) : Flat (s.add h) (m + 1) := by
  rcases add_cases s h with ⟨_, h1⟩ | ⟨i, h1, h2, h3, h4, h5⟩
  · rw [h1]; exact f.more hm
  · have hi := (findT_spec h3).1
    have hbits : h.bits = bits0 := by
      unfold checkT at h4
      rw [flat_bits f ok hi] at h4
      split at h4; · cases h4
      split at h4; · cases h4
      rename_i h6
      exact (Decidable.not_not.1 h6).symm
    rw [h5]
    refine ⟨f.every, ?_, hm, fun j hj => ?_, fun j hj => ?_⟩
    · rw [put_L, addL_len]; have := f.len; omega
    · rw [put_L, addL_len] at hj
      rw [put_L]
      by_cases hjl : j < s.L.length
      · rw [nd_add_h hi hjl]; exact f.bits j hjl
      · have : j = s.L.length := by omega
        subst this; rw [nd_add_new]; exact hbits
    · rw [put_L, addL_len] at hj
      rw [put_L]
      by_cases hjl : j < s.L.length
      · rw [nd_add_work hi hjl, nd_add_height hi hjl]; exact f.work j hjl
      · have : j = s.L.length := by omega
        subst this; rw [nd_add_new]
        have h1 := height_le ok i hi
        have h2 := f.len
        have h3 := f.small
        simp only [newNd, f.work i hi, work_of hbits]
        rw [Nat.mod_eq_of_lt (Nat.lt_of_lt_of_le (show 2 * ((nd s.L i).height + 1) + 2 < 1000 by omega) (by decide))]
        omega
theorem conf_ok {s : TS} {x : H32} (ok : LOk s.L) (c : ChOk s.L s.ch) (hI : Inj s.L) (hr : 1 ≤ s.r.confirm) (h : confT s x = 0) : ∃ i, i < s.ch.length ∧ hashH (nd s.L (s.ch.getD i 0)).h = x ∧ s.r.confirm ≤ (s.ch.length : Int) - i := by
  unfold confT at h
  split at h; · cases h
  split at h; · cases h
  rename_i h1 h2
  by_cases hm : x ∈ lineH s
  · obtain ⟨i, h3, h4⟩ := lineH_mem.1 hm
    refine ⟨i, h3, h4, ?_⟩
    rw [← h4, depth_ch c hI h3] at h2
    omega
  · rw [depth_out ok hm] at h2; omega
theorem conf_at {s : TS} (c : ChOk s.L s.ch) (hI : Inj s.L) {i : Nat} (hi : i < s.ch.length) (h : s.r.confirm ≤ (s.ch.length : Int) - i) : confT s (hashH (nd s.L (s.ch.getD i 0)).h) = 0 := by
  unfold confT
  rw [if_neg (by rw [hI _ (c.lt i hi)]; simp), depth_ch c hI hi, if_neg (by omega)]
theorem conf_stays {s : TS} {m : Nat} {deep : Int} {h : Hd} {x : H32} (f : Flat s m) (ok : LOk s.L) (c : ChOk s.L s.ch) (hI : Inj s.L) (hr : 1 ≤ s.r.confirm) (hd : deepT s deep h < s.r.confirm) (hx : confT s x = 0) : confT (s.add h) x = 0 := by
  by_cases he : s.err h = 0
  · obtain ⟨i, g⟩ := add_fact ok c hI he
    obtain ⟨q, q1, q2, q3⟩ := conf_ok ok c hI hr hx
    have hL : (s.add h).L = addL s.L h i := by rw [g.ha]; rfl
    have hq := c.lt q q1
    rcases add_turn c g with ⟨h1, h2, h3, h4, h5⟩ | ⟨h1, h2, h3, h4⟩
    · obtain ⟨p, p1, p2, p3⟩ := fork_fact ok c hI g h2 h4
      have ht : turnedT s h < s.r.confirm := by
        unfold deepT at hd
        rw [if_pos he] at hd
        by_cases h' : deep < turnedT s h
        · rw [if_pos h'] at hd; exact hd
        · rw [if_neg h'] at hd; exact Int.lt_of_le_of_lt (Int.not_lt.1 h') hd
      have hmem := (p3 q q1).2 (ar1 p2 ht q3)
      have hbl := bestI_lt c
      have hlen : s.ch.length < (s.add h).ch.length := by
        rw [f.work _ hbl, best_height c] at h1
        have h6 : (newNd s.L h i).work ≤ 2 * ((nd s.L i).height + 2) := by
          have h7 := flat_add f ok
          have h8 : (newNd s.L h i).work = ((nd s.L i).work + workN h) % M256 := rfl
          have hbits : h.bits = bits0 := by
            have h4 := g.hc
            unfold checkT at h4
            rw [flat_bits f ok g.il] at h4
            split at h4; · cases h4
            split at h4; · cases h4
            rename_i h6
            exact (Decidable.not_not.1 h6).symm
          rw [h8, f.work i g.il, work_of hbits]
          exact Nat.le_trans (Nat.mod_le _ _) (Nat.le_of_eq (Nat.mul_add 2 ((nd s.L i).height + 1) 1).symm)
        exact ar2 c.ne h1 h6 h5
      obtain ⟨m', hm', em⟩ := mem_at hmem
      have hht := g.ck.ht m' hm'
      rw [em, hL, nd_add_height g.il hq, c.ht q q1] at hht
      subst hht
      rw [← q2, show (nd s.L (s.ch.getD q 0)).h = (nd (s.add h).L (s.ch.getD q 0)).h by rw [hL, nd_add_h g.il hq], ← em]
      exact conf_at g.ck g.inj hm' (by rw [add_r]; exact ar3 q3 hlen)
    · rw [← q2, show (nd s.L (s.ch.getD q 0)).h = (nd (s.add h).L (s.ch.getD q 0)).h by rw [hL, nd_add_h g.il hq], ← h2]
      have := conf_at (s := s.add h) g.ck g.inj (i := q) (by rw [h2]; exact q1) (by rw [add_r, h2]; exact q3)
      exact this
  · rw [add_bad he]; exact hx
end Go.Proofs
