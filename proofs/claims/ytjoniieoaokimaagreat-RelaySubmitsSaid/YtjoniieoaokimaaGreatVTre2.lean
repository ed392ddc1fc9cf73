/- Walks and laws of this claim, part Tre2. -/
import Derived.Test.YtjoniieoaokimaaGreatVTre
set_option linter.unusedVariables false
set_option linter.unusedSimpArgs false
set_option linter.unusedSectionVars false
set_option autoImplicit true
set_option relaxedAutoImplicit true
set_option maxRecDepth 100000
set_option maxHeartbeats 1000000
namespace Go.Proofs
open V
def atT (L : List Nd) (ch : List Nat) (z : Int) : H32 × Bool := if z < 0 then (h0, false) else if (ch.length : Int) ≤ z then (h0, false) else (hashH (nd L (ch.getD z.toNat 0)).h, true)

theorem tree_At (τ : Tr) (ok : τ.ok) (z : Int) :
    PureS Tryz.prog (Pts (treeM τ)) 57 [.pointer (some ⟨τ.bt, 0, none⟩), vI z] (.tuple #[vH (atT τ.L τ.ch z).1, .bool (atT τ.L τ.ch z).2]) := by
  intro w hw
  refine beginR Tryz.func57 rfl Tryz.ntmps57 rfl hw ?_
  refine c_seq ?_
  refine c_region ?_
  refine seqq (o_alloc (ps := [hP h0]) Tryz.zeroValue26 (by kernel_rfl) rfl (fun b4 => ?_))
  refine seqq (o_y (y_assign rfl) rfl ?_)
  refine c_nil ?_
  refine c_seq ?_
  refine c_seq ?_
  refine c_region ?_
  refine seqq (o_y (y_move rfl) rfl ?_)
  refine seqq (o_y (y_eqlNilPk (v := false) Tryz.runUnderlying32 rfl rfl rfl) rfl ?_)
  refine seqq (o_y (y_move rfl) rfl ?_)
  refine seqq (guard_true rfl rfl (o_y (y_move rfl) rfl ?_))
  refine seqq (guard_true rfl rfl (o_y (y_lssZ rfl rfl) rfl ?_))
  refine seqq (o_y (y_pick_f rfl rfl) rfl ?_)
  refine seqq (o_y (y_move rfl) rfl ?_)
  refine j_if 12 rfl (fun h12 => ?_) (fun h12 => ?_)
  ·
    refine seqq (guard_false (c := true) rfl rfl rfl rfl ?_)
    refine seqq (guard_false (c := true) rfl rfl rfl rfl ?_)
    refine seqq (guard_false (c := true) rfl rfl rfl rfl ?_)
    refine seqq (guard_false (c := true) rfl rfl rfl rfl ?_)
    refine seqq (guard_false (c := true) rfl rfl rfl rfl ?_)
    refine seqq (guard_false (c := true) rfl rfl rfl rfl ?_)
    refine seqq (guard_false (c := true) rfl rfl rfl rfl ?_)
    refine seqq (o_y (y_pick_t rfl rfl) rfl ?_)
    refine c_nil ?_
    refine c_condT rfl ?_
    refine c_seq ?_
    refine c_region ?_
    refine seqq (o_y (y_buildA (zs := [hP h0]) Tryz.runUnderlying26 Tryz.sizeOf5 Tryz.zeroValue26 (by kernel_rfl) .nil (by rfl)) rfl ?_)
    refine seqq (stN Tryz.sizeOf26 rfl rfl (by rfl) rfl (by rfl) ?_)
    refine seqq (o_y (y_assign rfl) rfl ?_)
    refine c_nil ?_
    refine c_ret ?_
    refine c_done2 Tryz.results57 (rN Tryz.isAgg26 Tryz.sizeOf26 rfl (by rfl)) (.tmp rfl) (fun w hS => ?_)
    exact ⟨by unfold atT; simp only [*, if_true, if_false]; rfl, hS.none⟩
  ·
    refine seqq (guard_true rfl rfl (o_y (y_move rfl) rfl ?_))
    refine seqq (guard_true rfl rfl (o_y (y_move rfl) rfl ?_))
    refine seqq (guard_true rfl rfl (o_y (y_nilCheck rfl) rfl ?_))
    refine seqq (guard_true rfl rfl (o_y (y_fieldAddr Tryz.runUnderlying91 rfl Tryz.sizeOf89 rfl rfl) rfl ?_))
    refine seqq (guard_true rfl rfl (o_y (l1 Tryz.isAgg89 rfl (by rfl)) rfl ?_))
    refine seqq (guard_true rfl rfl (o_y (y_len (tys := #[]) Tryz.runUnderlying89 rfl) rfl ?_))
    refine seqq (guard_true rfl rfl (o_y (y_geqZ rfl rfl) rfl ?_))
    refine seqq (o_y (y_pick_f rfl rfl) rfl ?_)
    refine c_nil ?_
    refine c_if rfl (fun h20 => ?_) (fun h20 => ?_)
    ·
      refine c_seq ?_
      refine c_region ?_
      refine seqq (o_y (y_buildA (zs := [hP h0]) Tryz.runUnderlying26 Tryz.sizeOf5 Tryz.zeroValue26 (by kernel_rfl) .nil (by rfl)) rfl ?_)
      refine seqq (stN Tryz.sizeOf26 rfl rfl (by rfl) rfl (by rfl) ?_)
      refine seqq (o_y (y_assign rfl) rfl ?_)
      refine c_nil ?_
      refine c_ret ?_
      refine c_done2 Tryz.results57 (rN Tryz.isAgg26 Tryz.sizeOf26 rfl (by rfl)) (.tmp rfl) (fun w hS => ?_)
      exact ⟨by unfold atT; simp only [*, if_true, if_false]; rfl, hS.none⟩
    ·
      have I1 := ins_nd τ _ (ok.c.lt z.toNat (by omega))
      refine c_skip ?_
      refine c_seq ?_
      refine c_region ?_
      refine seqq (o_y (y_move rfl) rfl ?_)
      refine seqq (o_y (y_nilCheck rfl) rfl ?_)
      refine seqq (o_y (y_fieldAddr Tryz.runUnderlying91 rfl Tryz.sizeOf89 rfl rfl) rfl ?_)
      refine seqq (o_y (l1 Tryz.isAgg89 rfl (by rfl)) rfl ?_)
      refine seqq (o_y (y_move rfl) rfl ?_)
      refine seqq (o_y (y_indexAddrS Tryz.runUnderlying89 Tryz.sizeOf84 rfl rfl (by omega)) rfl ?_)
      refine seqq (o_y (l_ch z.toNat rfl (by omega) (by omega)) rfl ?_)
      refine seqq (o_y (y_nilCheck rfl) rfl ?_)
      refine seqq (o_y (y_fieldAddr Tryz.runUnderlying86 rfl Tryz.sizeOf26 rfl rfl) rfl ?_)
      refine seqq (o_y (lN Tryz.isAgg26 Tryz.sizeOf26 rfl (by rfl)) rfl ?_)
      refine seqq (stN Tryz.sizeOf26 rfl rfl (by rfl) rfl (by rfl) ?_)
      refine seqq (o_y (y_assign rfl) rfl ?_)
      refine c_nil ?_
      refine c_ret ?_
      refine c_done2 Tryz.results57 (rN Tryz.isAgg26 Tryz.sizeOf26 rfl (by rfl)) (.tmp rfl) (fun w hS => ?_)
      exact ⟨by unfold atT; simp only [*, if_true, if_false]; rfl, hS.none⟩

def checkT (r : Rl) (L : List Nd) (tips : Nat) (h : Hd) (i : Nat) : Int :=
  if ¬ (bitsT r L i).2 = 0 then 6 else if ¬ (bitsT r L i).1 = h.bits then 6 else if ¬ checkH h (decT r.limit) = 0 then checkH h (decT r.limit)
  else if h.time.toNat ≤ (medT L i).toNat then 11 else if (4096 : Int) ≤ (L.length : Int) then 10 else if (0 : Int) < ((nd L i).kids : Int) then (if (16 : Int) ≤ (tips : Int) then 10 else 0) else 0

theorem tree_check (τ : Tr) (ok : τ.ok) (h : Hd) (i : Nat) (hi : i < τ.L.length) :
    PureS Tryz.prog (Pts (treeM τ)) 42 [.pointer (some ⟨τ.bt, 0, none⟩), vHd h, ptrI τ.bs (some i)] (vI (checkT τ.r τ.L τ.tips h i)) := by
  intro w hw
  have hlim := decT_lt τ.r.limit
  have I1 := ins_nd τ i hi
  refine beginR Tryz.func42 rfl Tryz.ntmps42 rfl hw ?_
  refine c_seq ?_
  refine c_region ?_
  refine seqq (o_box (T := 28) rfl (IsP.agg).cells rfl (fun b4 => ?_))
  refine seqq (o_y (y_assign rfl) rfl ?_)
  refine c_nil ?_
  refine c_seq ?_
  refine c_region ?_
  refine seqq (o_y (y_move rfl) rfl ?_)
  refine seqq (o_y (y_move rfl) rfl ?_)
  refine seqq (o_pureS Tryz.call71 rfl (PureS.sub (tree_bits0 τ ok i hi)) rfl ?_)
  refine seqq (o_y (y_move rfl) rfl ?_)
  refine seqq (o_y (y_extract rfl rfl) rfl ?_)
  refine seqq (o_y (y_extract rfl rfl) rfl ?_)
  refine seqq (o_y (y_assign rfl) rfl ?_)
  refine seqq (o_y (y_assign rfl) rfl ?_)
  refine c_nil ?_
  refine c_seq ?_
  refine c_seq ?_
  refine c_region ?_
  refine seqq (o_y (y_move rfl) rfl ?_)
  refine seqq (o_y (y_neqZ rfl rfl) rfl ?_)
  refine seqq (o_y (y_move rfl) rfl ?_)
  refine j_ifn 18 rfl (fun h18 => ?_) (fun h18 => ?_)
  ·
    refine seqq (guard_false (c := true) rfl rfl rfl rfl ?_)
    refine seqq (guard_false (c := true) rfl rfl rfl rfl ?_)
    refine seqq (guard_false (c := true) rfl rfl rfl rfl ?_)
    refine seqq (guard_false (c := true) rfl rfl rfl rfl ?_)
    refine seqq (o_y (y_pick_t rfl rfl) rfl ?_)
    refine c_nil ?_
    refine c_condT rfl ?_
    refine c_seq ?_
    refine c_region ?_
    refine seqq (o_y (y_assign rfl) rfl ?_)
    refine c_nil ?_
    refine c_ret ?_
    refine c_done1 Tryz.results42 (.tmp rfl) (fun w hS => ?_)
    exact ⟨by unfold checkT; simp only [*, not_true_eq_false, not_false_eq_true, if_true, if_false], hS.none⟩
  ·
    refine seqq (guard_true rfl rfl (o_y (y_move rfl) rfl ?_))
    refine seqq (guard_true rfl rfl (o_y (y_fieldAddr Tryz.runUnderlying28 rfl Tryz.sizeOf22 rfl rfl) rfl ?_))
    refine seqq (guard_true rfl rfl (o_y (l1 Tryz.isAgg22 rfl (by rfl)) rfl ?_))
    refine seqq (guard_true rfl rfl (o_y (y_neqB rfl rfl) rfl ?_))
    refine seqq (o_y (y_pick_f rfl rfl) rfl ?_)
    refine c_nil ?_
    refine c_ifn rfl (fun h23 => ?_) (fun h23 => ?_)
    ·
      refine c_seq ?_
      refine c_region ?_
      refine seqq (o_y (y_assign rfl) rfl ?_)
      refine c_nil ?_
      refine c_ret ?_
      refine c_done1 Tryz.results42 (.tmp rfl) (fun w hS => ?_)
      exact ⟨by unfold checkT; simp only [*, not_true_eq_false, not_false_eq_true, if_true, if_false], hS.none⟩
    ·
      refine c_skip ?_
      refine c_seq ?_
      refine c_seq ?_
      refine d_reg 7 mixed rfl ?_
      refine d_s (i := 0) (k' := 1) rfl (by kernel_rfl) (by kernel_rfl) (lN Tryz.isAgg28 Tryz.sizeOf28 rfl (by rfl)) hss rfl ?_
      refine d_y (i := 1) (k' := 3) rfl (by kernel_rfl) (y_move rfl) rfl ?_
      refine d_y (i := 2) (k' := 7) rfl (by kernel_rfl) (y_nilCheck rfl) rfl ?_
      refine d_y (i := 3) (k' := 15) rfl (by kernel_rfl) (y_fieldAddr Tryz.runUnderlying91 rfl Tryz.sizeOf30 rfl rfl) rfl ?_
      refine d_s (i := 4) (k' := 31) rfl (by kernel_rfl) (by kernel_rfl) (lN Tryz.isAgg30 Tryz.sizeOf30 rfl (by rfl)) hss rfl ?_
      refine d_c (i := 5) (k' := 63) rfl (by kernel_rfl) Tryz.call72 rfl (adj_Top _) rfl ?_
      refine d_c (i := 6) (k' := 127) rfl (by kernel_rfl) Tryz.call39 rfl (hdr_Check _ _ (by assumption)) rfl ?_
      refine d_y (i := 7) (k' := 255) rfl (by kernel_rfl) (y_assign rfl) rfl ?_
      refine d_end (by kernel_rfl) ?_
      refine c_seq ?_
      refine c_region ?_
      refine seqq (o_y (y_move rfl) rfl ?_)
      refine seqq (o_y (y_neqZ rfl rfl) rfl ?_)
      refine c_nil ?_
      refine c_ifn rfl (fun h32 => ?_) (fun h32 => ?_)
      ·
        refine c_seq ?_
        refine c_region ?_
        refine seqq (o_y (y_move rfl) rfl ?_)
        refine seqq (o_y (y_assign rfl) rfl ?_)
        refine c_nil ?_
        refine c_ret ?_
        refine c_done1 Tryz.results42 (.tmp rfl) (fun w hS => ?_)
        exact ⟨by unfold checkT; simp only [*, not_true_eq_false, not_false_eq_true, if_true, if_false], hS.none⟩
      ·
        refine c_skip ?_
        refine c_seq ?_
        refine c_block ?_
        refine c_seq ?_
        refine d_reg 6 mixed rfl ?_
        refine d_y (i := 0) (k' := 1) rfl (by kernel_rfl) (y_fieldAddr Tryz.runUnderlying28 rfl Tryz.sizeOf22 rfl rfl) rfl ?_
        refine d_s (i := 1) (k' := 3) rfl (by kernel_rfl) (by kernel_rfl) (l1 Tryz.isAgg22 rfl (by rfl)) hss rfl ?_
        refine d_y (i := 2) (k' := 7) rfl (by kernel_rfl) (y_move rfl) rfl ?_
        refine d_cS (i := 3) (k' := 15) rfl (by kernel_rfl) (by kernel_rfl) Tryz.call73 rfl (PureS.sub (tree_median τ ok i hi)) hss rfl ?_
        refine d_y (i := 4) (k' := 31) rfl (by kernel_rfl) (y_leqB rfl rfl) rfl ?_
        refine d_y (i := 5) (k' := 63) rfl (by kernel_rfl) (y_assign rfl) rfl ?_
        refine d_end (by kernel_rfl) ?_
        refine c_if rfl (fun h34 => ?_) (fun h34 => ?_)
        ·
          refine c_seq ?_
          refine c_region ?_
          refine seqq (o_y (y_assign rfl) rfl ?_)
          refine c_nil ?_
          refine c_ret ?_
          refine c_done1 Tryz.results42 (.tmp rfl) (fun w hS => ?_)
          exact ⟨by unfold checkT; simp only [*, not_true_eq_false, not_false_eq_true, if_true, if_false], hS.none⟩
        ·
          refine c_seq ?_
          refine c_region ?_
          refine seqq (o_y (y_move rfl) rfl ?_)
          refine seqq (o_y (y_nilCheck rfl) rfl ?_)
          refine seqq (o_y (y_fieldAddr Tryz.runUnderlying91 rfl Tryz.sizeOf88 rfl rfl) rfl ?_)
          refine seqq (o_y (l1 Tryz.isAgg88 rfl (by rfl)) rfl ?_)
          refine seqq (o_y (y_lenT (tys := #[]) rfl) rfl ?_)
          refine seqq (o_y (y_geqZ rfl rfl) rfl ?_)
          refine seqq (o_y (y_move rfl) rfl ?_)
          refine j_if 47 rfl (fun h47 => ?_) (fun h47 => ?_)
          ·
            refine seqq (guard_false (c := true) rfl rfl rfl rfl ?_)
            refine seqq (guard_false (c := true) rfl rfl rfl rfl ?_)
            refine seqq (guard_false (c := true) rfl rfl rfl rfl ?_)
            refine seqq (guard_false (c := true) rfl rfl rfl rfl ?_)
            refine seqq (guard_false (c := true) rfl rfl rfl rfl ?_)
            refine seqq (guard_false (c := true) rfl rfl rfl rfl ?_)
            refine seqq (guard_undef rfl rfl rfl ?_)
            refine seqq (guard_undef rfl rfl rfl ?_)
            refine seqq (guard_undef rfl rfl rfl ?_)
            refine seqq (guard_undef rfl rfl rfl ?_)
            refine seqq (guard_undef rfl rfl rfl ?_)
            refine seqq (guard_false (c := true) rfl rfl rfl rfl ?_)
            refine seqq (o_y (y_pick_t rfl rfl) rfl ?_)
            refine seqq (o_y (y_assign rfl) rfl ?_)
            refine c_nil ?_
            refine c_condT rfl ?_
            refine c_seq ?_
            refine c_region ?_
            refine seqq (o_y (y_assign rfl) rfl ?_)
            refine c_nil ?_
            refine c_ret ?_
            refine c_done1 Tryz.results42 (.tmp rfl) (fun w hS => ?_)
            exact ⟨by unfold checkT; simp only [*, not_true_eq_false, not_false_eq_true, if_true, if_false], hS.none⟩
          ·
            refine seqq (guard_true rfl rfl (o_y (y_move rfl) rfl ?_))
            refine seqq (guard_true rfl rfl (o_y (y_nilCheck rfl) rfl ?_))
            refine seqq (guard_true rfl rfl (o_y (y_fieldAddr Tryz.runUnderlying86 rfl Tryz.sizeOf3 rfl rfl) rfl ?_))
            refine seqq (guard_true rfl rfl (o_y (l1 Tryz.isAgg3 rfl (by rfl)) rfl ?_))
            refine seqq (guard_true rfl rfl (o_y (y_gtrZ rfl rfl) rfl ?_))
            refine seqq (guard_true rfl rfl (o_y (y_move rfl) rfl ?_))
            refine j_if 53 rfl (fun h53 => ?_) (fun h53 => ?_)
            ·
              refine seqq (guard_true rfl rfl (o_y (y_move rfl) rfl ?_))
              refine seqq (guard_true rfl rfl (o_y (y_nilCheck rfl) rfl ?_))
              refine seqq (guard_true rfl rfl (o_y (y_fieldAddr Tryz.runUnderlying91 rfl Tryz.sizeOf3 rfl rfl) rfl ?_))
              refine seqq (guard_true rfl rfl (o_y (l1 Tryz.isAgg3 rfl (by rfl)) rfl ?_))
              refine seqq (guard_true rfl rfl (o_y (y_geqZ rfl rfl) rfl ?_))
              refine seqq (guard_true rfl rfl (o_y (y_pick_t rfl rfl) rfl ?_))
              refine seqq (o_y (y_pick_f rfl rfl) rfl ?_)
              refine seqq (o_y (y_assign rfl) rfl ?_)
              refine c_nil ?_
              refine c_if rfl (fun h40 => ?_) (fun h40 => ?_)
              ·
                refine c_seq ?_
                refine c_region ?_
                refine seqq (o_y (y_assign rfl) rfl ?_)
                refine c_nil ?_
                refine c_ret ?_
                refine c_done1 Tryz.results42 (.tmp rfl) (fun w hS => ?_)
                exact ⟨by unfold checkT; simp only [*, not_true_eq_false, not_false_eq_true, if_true, if_false], hS.none⟩
              ·
                refine c_skip ?_
                refine c_seq ?_
                refine c_region ?_
                refine seqq (o_y (y_assign rfl) rfl ?_)
                refine c_nil ?_
                refine c_ret ?_
                refine c_done1 Tryz.results42 (.tmp rfl) (fun w hS => ?_)
                exact ⟨by unfold checkT; simp only [*, not_true_eq_false, not_false_eq_true, if_true, if_false], hS.none⟩
            ·
              refine seqq (guard_false (c := false) rfl rfl rfl rfl ?_)
              refine seqq (guard_false (c := false) rfl rfl rfl rfl ?_)
              refine seqq (guard_false (c := false) rfl rfl rfl rfl ?_)
              refine seqq (guard_false (c := false) rfl rfl rfl rfl ?_)
              refine seqq (guard_false (c := false) rfl rfl rfl rfl ?_)
              refine seqq (guard_true rfl rfl (o_y (y_pick_f rfl rfl) rfl ?_))
              refine seqq (o_y (y_pick_f rfl rfl) rfl ?_)
              refine seqq (o_y (y_assign rfl) rfl ?_)
              refine c_nil ?_
              refine c_condF rfl ?_
              refine c_skip ?_
              refine c_seq ?_
              refine c_region ?_
              refine seqq (o_y (y_assign rfl) rfl ?_)
              refine c_nil ?_
              refine c_ret ?_
              refine c_done1 Tryz.results42 (.tmp rfl) (fun w hS => ?_)
              exact ⟨by unfold checkT; simp only [*, not_true_eq_false, not_false_eq_true, if_true, if_false], hS.none⟩

/-! ### where two chains part -/
def forkI (L : List Nd) : Nat → Nat → Nat → Nat
  | 0, i, _ => i
  | n + 1, i, j => if i = j then i else if (nd L j).height ≤ (nd L i).height then forkI L n ((nd L i).ahead.getD 0) j else forkI L n i ((nd L j).ahead.getD 0)
def hsum (L : List Nd) (i j : Nat) : Nat := (nd L i).height + (nd L j).height
def forkT (L : List Nd) (a b : H32) : Int × Bool := match findT L a, findT L b with
  | some i, some j => (((nd L (forkI L (hsum L i j) i j)).height : Int), true)
  | _, _ => (0, false)
theorem ptrA_isNone {bs : List Nat} {o : Option Nat} (h : (ptrA bs o).isNone = true) : o = none := by cases o with
  | none => rfl
  | some i => cases h
theorem ptrA_notNone {bs : List Nat} {o : Option Nat} (h : (ptrA bs o).isNone = false) : ∃ i, o = some i := by cases o with
  | none => cases h
  | some i => exact ⟨i, rfl⟩
theorem height_zero {L : List Nd} (h : LOk L) {i : Nat} (hi : i < L.length) (h0 : (nd L i).height = 0) : i = 0 := by
  rcases Nat.eq_zero_or_pos i with h1 | h1
  · exact h1
  · obtain ⟨j, _, _, h2⟩ := h.step i h1 hi
    omega
theorem nodup_inj {l : List Nat} (h : l.Nodup) {i j : Nat} (hi : i < l.length) (hj : j < l.length) (e : l[i] = l[j]) : i = j := by
  rcases Nat.lt_trichotomy i j with h1 | h1 | h1
  · exact absurd e (List.pairwise_iff_getElem.1 h i j hi hj h1)
  · exact h1
  · exact absurd e.symm (List.pairwise_iff_getElem.1 h j i hj hi h1)
theorem bs_ne {τ : Tr} (ok : τ.ok) {i j : Nat} (hi : i < τ.L.length) (hj : j < τ.L.length) : τ.bs.getD i 0 = τ.bs.getD j 0 ↔ i = j := by
  have h1 : i < τ.bs.length := by rw [ok.bs]; exact hi
  have h2 : j < τ.bs.length := by rw [ok.bs]; exact hj
  simp only [List.getD, List.getElem?_eq_getElem h1, List.getElem?_eq_getElem h2, Option.getD_some]
  exact ⟨fun h => nodup_inj ok.nd h1 h2 h, fun h => by subst h; rfl⟩
theorem forkI_same (L : List Nd) (i : Nat) : ∀ n, forkI L n i i = i
  | 0 => rfl
  | n + 1 => by rw [forkI, if_pos rfl]

theorem tree_Fork (τ : Tr) (ok : τ.ok) (a b : H32) :
    PureS Tryz.prog (Pts (treeM τ)) 59 [.pointer (some ⟨τ.bt, 0, none⟩), vH a, vH b] (.tuple #[vI (forkT τ.L a b).1, .bool (forkT τ.L a b).2]) := by
  intro w hw
  have hbig := ok.l.big
  refine beginR Tryz.func59 rfl Tryz.ntmps59 rfl hw ?_
  refine c_seq ?_
  refine c_region ?_
  refine seqq (o_box (T := 26) rfl (IsP.agg).cells rfl (fun b4 => ?_))
  refine seqq (o_box (T := 26) rfl (IsP.agg).cells rfl (fun b5 => ?_))
  refine seqq (o_y (y_assign rfl) rfl ?_)
  refine seqq (o_y (y_assign rfl) rfl ?_)
  refine c_nil ?_
  refine c_seq ?_
  refine c_seq ?_
  refine c_region ?_
  refine seqq (o_y (y_move rfl) rfl ?_)
  refine seqq (o_y (y_eqlNilPk (v := false) Tryz.runUnderlying32 rfl rfl rfl) rfl ?_)
  refine c_nil ?_
  refine c_condF rfl ?_
  refine c_skip ?_
  refine c_seq ?_
  refine d_reg 13 mixed rfl ?_
  refine d_y (i := 0) (k' := 1) rfl (by kernel_rfl) (y_move rfl) rfl ?_
  refine d_y (i := 1) (k' := 3) rfl (by kernel_rfl) (y_nilCheck rfl) rfl ?_
  refine d_y (i := 2) (k' := 7) rfl (by kernel_rfl) (y_fieldAddr Tryz.runUnderlying91 rfl Tryz.sizeOf88 rfl rfl) rfl ?_
  refine d_s (i := 3) (k' := 15) rfl (by kernel_rfl) (by kernel_rfl) (l1 Tryz.isAgg88 rfl (by rfl)) hss rfl ?_
  refine d_s (i := 4) (k' := 31) rfl (by kernel_rfl) (by kernel_rfl) (lN Tryz.isAgg26 Tryz.sizeOf26 rfl (by rfl)) hss rfl ?_
  refine d_s (i := 5) (k' := 63) rfl (by kernel_rfl) (by kernel_rfl) (y_lookT1 a rfl rfl) hss rfl ?_
  refine d_y (i := 6) (k' := 127) rfl (by kernel_rfl) (y_move rfl) rfl ?_
  refine d_y (i := 7) (k' := 255) rfl (by kernel_rfl) (y_nilCheck rfl) rfl ?_
  refine d_y (i := 8) (k' := 511) rfl (by kernel_rfl) (y_fieldAddr Tryz.runUnderlying91 rfl Tryz.sizeOf88 rfl rfl) rfl ?_
  refine d_s (i := 9) (k' := 1023) rfl (by kernel_rfl) (by kernel_rfl) (l1 Tryz.isAgg88 rfl (by rfl)) hss rfl ?_
  refine d_s (i := 10) (k' := 2047) rfl (by kernel_rfl) (by kernel_rfl) (lN Tryz.isAgg26 Tryz.sizeOf26 rfl (by rfl)) hss rfl ?_
  refine d_s (i := 11) (k' := 4095) rfl (by kernel_rfl) (by kernel_rfl) (y_lookT1 b rfl rfl) hss rfl ?_
  refine d_y (i := 12) (k' := 8191) rfl (by kernel_rfl) (y_assign rfl) rfl ?_
  refine d_y (i := 13) (k' := 16383) rfl (by kernel_rfl) (y_assign rfl) rfl ?_
  refine d_end (by kernel_rfl) ?_
  refine c_seq ?_
  refine c_seq ?_
  refine c_region ?_
  refine seqq (o_y (y_move rfl) rfl ?_)
  refine seqq (o_y (y_eqlNilP Tryz.runUnderlying84 rfl rfl) rfl ?_)
  refine seqq (o_y (y_move rfl) rfl ?_)
  refine j_bool 26 rfl (fun h26 => ?_) (fun h26 => ?_)
  ·
    have hs := ptrA_isNone h26
    refine seqq (guard_false (c := true) rfl rfl rfl rfl ?_)
    refine seqq (guard_false (c := true) rfl rfl rfl rfl ?_)
    refine seqq (o_y (y_pick_t rfl rfl) rfl ?_)
    refine c_nil ?_
    refine c_condT rfl ?_
    refine c_seq ?_
    refine c_region ?_
    refine seqq (o_y (y_assign rfl) rfl ?_)
    refine seqq (o_y (y_assign rfl) rfl ?_)
    refine c_nil ?_
    refine c_ret ?_
    refine c_done2 Tryz.results59 (.tmp rfl) (.tmp rfl) (fun w hS => ?_)
    exact ⟨by simp only [forkT, hs] <;> rfl, hS.none⟩
  ·
    obtain ⟨i, hi⟩ := ptrA_notNone h26
    refine seqq (guard_true rfl rfl (o_y (y_move rfl) rfl ?_))
    refine seqq (guard_true rfl rfl (o_y (y_eqlNilP Tryz.runUnderlying84 rfl rfl) rfl ?_))
    refine seqq (o_y (y_pick_f rfl rfl) rfl ?_)
    refine c_nil ?_
    refine c_cond rfl (fun h29 => ?_) (fun h29 => ?_)
    ·
      have hs := ptrA_isNone h29
      refine c_seq ?_
      refine c_region ?_
      refine seqq (o_y (y_assign rfl) rfl ?_)
      refine seqq (o_y (y_assign rfl) rfl ?_)
      refine c_nil ?_
      refine c_ret ?_
      refine c_done2 Tryz.results59 (.tmp rfl) (.tmp rfl) (fun w hS => ?_)
      exact ⟨by simp only [forkT, hs, hi] <;> rfl, hS.none⟩
    ·
      obtain ⟨j, hj⟩ := ptrA_notNone h29
      refine j_re 8 rfl (show _ = ptrI τ.bs (some i) from by rw [hi]) ?_
      refine j_re 9 rfl (show _ = ptrI τ.bs (some j) from by rw [hj]) ?_
      refine c_skip ?_
      refine c_seq ?_
      refine c_block ?_
      refine c_while (X := Nat × Nat) [] [] rfl (fun Ek y => (8, ptrI τ.bs (some y.1)) :: (9, ptrI τ.bs (some y.2)) :: Ek) (fun Mk y => Mk) (fun y => y.1 < τ.L.length ∧ y.2 < τ.L.length ∧ forkI τ.L (hsum τ.L y.1 y.2) y.1 y.2 = forkI τ.L (hsum τ.L i j) i j) (fun y => hsum τ.L y.1 y.2) (i, j) ⟨(findT_spec hi).1, (findT_spec hj).1, rfl⟩ ⟨rfl, rfl, trivial⟩ ?_
      intro y hy
      obtain ⟨hy1, hy2, hy3⟩ := hy
      have I1 := ins_nd τ y.1 hy1
      have I2 := ins_nd τ y.2 hy2
      refine c_seq ?_
      refine c_seq ?_
      refine c_region ?_
      refine seqq (o_y (y_move rfl) rfl ?_)
      refine seqq (o_y (y_move rfl) rfl ?_)
      refine seqq (o_y (y_neqP (b := τ.bs.getD y.1 0) (c := τ.bs.getD y.2 0) Tryz.underlying84 (j := Tryz.t86) (by kernel_rfl) (by decide) rfl rfl) rfl ?_)
      refine j_re 32 rfl (show _ = Value.bool (!decide (y.1 = y.2)) from by rw [decide_eq_decide.2 (bs_ne ok hy1 hy2)]) ?_
      refine c_nil ?_
      refine c_ifn rfl (fun h32 => ?_) (fun h32 => ?_)
      ·
        have hpos : 0 < hsum τ.L y.1 y.2 := Nat.pos_of_ne_zero fun h0 => h32 (by unfold hsum at h0; rw [height_zero ok.l hy1 (by omega), height_zero ok.l hy2 (by omega)])
        obtain ⟨m, hm⟩ : ∃ m, hsum τ.L y.1 y.2 = m + 1 := ⟨hsum τ.L y.1 y.2 - 1, by omega⟩
        refine c_skip ?_
        refine c_block ?_
        refine c_seq ?_
        refine d_reg 8 mixed rfl ?_
        refine d_y (i := 0) (k' := 1) rfl (by kernel_rfl) (y_move rfl) rfl ?_
        refine d_y (i := 1) (k' := 3) rfl (by kernel_rfl) (y_nilCheck rfl) rfl ?_
        refine d_y (i := 2) (k' := 7) rfl (by kernel_rfl) (y_fieldAddr Tryz.runUnderlying86 rfl Tryz.sizeOf3 rfl rfl) rfl ?_
        refine d_s (i := 3) (k' := 15) rfl (by kernel_rfl) (by kernel_rfl) (l1 Tryz.isAgg3 rfl (by rfl)) hss rfl ?_
        refine d_y (i := 4) (k' := 31) rfl (by kernel_rfl) (y_move rfl) rfl ?_
        refine d_y (i := 5) (k' := 63) rfl (by kernel_rfl) (y_nilCheck rfl) rfl ?_
        refine d_y (i := 6) (k' := 127) rfl (by kernel_rfl) (y_fieldAddr Tryz.runUnderlying86 rfl Tryz.sizeOf3 rfl rfl) rfl ?_
        refine d_s (i := 7) (k' := 255) rfl (by kernel_rfl) (by kernel_rfl) (l1 Tryz.isAgg3 rfl (by rfl)) hss rfl ?_
        refine d_y (i := 8) (k' := 511) rfl (by kernel_rfl) (y_geqZ rfl rfl) rfl ?_
        refine d_end (by kernel_rfl) ?_
        refine c_if rfl (fun h41 => ?_) (fun h41 => ?_)
        ·
          obtain ⟨q, hq1, hq2, hq3⟩ := ahead_some ok.l hy1 (show 0 < (nd τ.L y.1).height by unfold hsum at hpos; omega)
          refine c_region ?_
          refine seqq (o_y (y_move rfl) rfl ?_)
          refine seqq (o_y (y_nilCheck rfl) rfl ?_)
          refine seqq (o_y (y_fieldAddr Tryz.runUnderlying86 rfl Tryz.sizeOf84 rfl rfl) rfl ?_)
          refine seqq (o_y (l1 Tryz.isAgg84 rfl (by rfl)) rfl ?_)
          refine j_re 45 rfl (show _ = ptrI τ.bs (some q) from by rw [hq1]) ?_
          refine seqq (o_y (y_assign rfl) rfl ?_)
          refine c_nil ?_
          exact c_next (q, y.2) ⟨by dsimp only; omega, hy2, by rw [← hy3, hm, forkI, if_neg h32, if_pos (by omega), hq1]; simp only [Option.getD_some]; congr 1; unfold hsum at hm ⊢; omega⟩ (by unfold hsum at hm ⊢; dsimp only; omega) ⟨rfl, rfl, trivial⟩
        ·
          obtain ⟨q, hq1, hq2, hq3⟩ := ahead_some ok.l hy2 (show 0 < (nd τ.L y.2).height by omega)
          refine c_region ?_
          refine seqq (o_y (y_move rfl) rfl ?_)
          refine seqq (o_y (y_nilCheck rfl) rfl ?_)
          refine seqq (o_y (y_fieldAddr Tryz.runUnderlying86 rfl Tryz.sizeOf84 rfl rfl) rfl ?_)
          refine seqq (o_y (l1 Tryz.isAgg84 rfl (by rfl)) rfl ?_)
          refine j_re 49 rfl (show _ = ptrI τ.bs (some q) from by rw [hq1]) ?_
          refine seqq (o_y (y_assign rfl) rfl ?_)
          refine c_nil ?_
          exact c_next (y.1, q) ⟨hy1, by dsimp only; omega, by rw [← hy3, hm, forkI, if_neg h32, if_neg (by omega), hq1]; simp only [Option.getD_some]; congr 1; unfold hsum at hm ⊢; omega⟩ (by unfold hsum at hm ⊢; dsimp only; omega) ⟨rfl, rfl, trivial⟩
      ·
        refine c_exit ?_
        refine c_seq ?_
        refine c_region ?_
        refine seqq (o_y (y_move rfl) rfl ?_)
        refine seqq (o_y (y_nilCheck rfl) rfl ?_)
        refine seqq (o_y (y_fieldAddr Tryz.runUnderlying86 rfl Tryz.sizeOf3 rfl rfl) rfl ?_)
        refine seqq (o_y (l1 Tryz.isAgg3 rfl (by rfl)) rfl ?_)
        refine seqq (o_y (y_assign rfl) rfl ?_)
        refine seqq (o_y (y_assign rfl) rfl ?_)
        refine c_nil ?_
        refine c_ret ?_
        refine c_done2 Tryz.results59 (.tmp rfl) (.tmp rfl) (fun w hS => ?_)
        exact ⟨by simp only [forkT, hi, hj]; rw [← hy3, h32, forkI_same], hS.none⟩

/-! ### the best chain, told -/
def chXs (L : List Nd) (ch : List Nat) : List (List Value) := (List.range ch.length).map fun (k : Nat) => [vI (k : Int), vH (hashH (nd L (ch.getD k 0)).h)]

theorem tree_Chain (τ : Tr) (w : World) : Quiet Tryz.prog 55 [.pointer (some ⟨τ.bt, 0, none⟩)] (fun u L => ∃ b1 : Nat, True ∧ u = .func (.func 86) #[] [.pointer (some ⟨b1, 0, none⟩)].toArray ∧ L = [[(b1, obj 32 [P1 (.pointer (some ⟨τ.bt, 0, none⟩)) rfl])]]) w := by
  refine begin0 Tryz.func55 rfl Tryz.ntmps55 rfl ?_
  refine c_seq ?_
  refine c_region ?_
  refine seqq (o_box (T := 32) (v := .pointer (some ⟨τ.bt, 0, none⟩)) rfl (IsP.one rfl).cells rfl (fun b1 => ?_))
  refine seqq (o_y (y_assign rfl) rfl ?_)
  refine c_nil ?_
  refine c_seq ?_
  refine c_region ?_
  refine seqq (o_y (y_makeFunc rfl) rfl ?_)
  refine seqq (o_y (y_assign rfl) rfl ?_)
  refine c_nil ?_
  refine c_ret ?_
  refine c_done1 Tryz.results55 (.tmp rfl) (fun w hS => ?_)
  exact ⟨_, ⟨b1, trivial, rfl, rfl⟩, hS.fin (N := [[(b1, obj 32 [P1 (.pointer (some ⟨τ.bt, 0, none⟩)) rfl])]])⟩

theorem iter_Chain (τ : Tr) (ok : τ.ok) (b1 : Nat) : Iter Tryz.prog 86 [.pointer (some ⟨b1, 0, none⟩)] (chXs τ.L τ.ch) (Pts ([(b1, obj 32 [P1 (.pointer (some ⟨τ.bt, 0, none⟩)) rfl])] :: treeM τ)) := by
  intro l I X hSS hEE hXX hRR w h0
  have hbig := ok.l.big
  have hcl := ch_le ok.l ok.c
  refine beginR Tryz.func86 rfl Tryz.ntmps86 rfl (Rd := [(b1, obj 32 [P1 (.pointer (some ⟨τ.bt, 0, none⟩)) rfl])] :: treeM τ) (hSS 0 w h0) ?_
  refine c_seq ?_
  refine c_seq ?_
  refine c_region ?_
  refine seqq (o_y (l1 Tryz.isAgg32 rfl (by rfl)) rfl ?_)
  refine seqq (o_y (y_eqlNilPk (v := false) Tryz.runUnderlying32 rfl rfl rfl) rfl ?_)
  refine c_nil ?_
  refine c_condF rfl ?_
  refine c_skip ?_
  refine c_seq ?_
  refine c_region ?_
  refine seqq (o_y (l1 Tryz.isAgg32 rfl (by rfl)) rfl ?_)
  refine seqq (o_y (y_nilCheck rfl) rfl ?_)
  refine seqq (o_y (y_fieldAddr Tryz.runUnderlying91 rfl Tryz.sizeOf89 rfl rfl) rfl ?_)
  refine seqq (o_y (l1 Tryz.isAgg89 rfl (by rfl)) rfl ?_)
  refine seqq (o_y (y_len (tys := #[]) Tryz.runUnderlying89 rfl) rfl ?_)
  refine seqq (o_y (y_move rfl) rfl ?_)
  refine c_nil ?_
  refine c_block ?_
  refine c_rounds (X := Nat) (Rd := [(b1, obj 32 [P1 (.pointer (some ⟨τ.bt, 0, none⟩)) rfl])] :: treeM τ) (fun x => [(0, .func (.yield l) #[] #[]), (1, .pointer (some ⟨b1, 0, none⟩)), (10, .slice (some ⟨τ.bc, 0, none⟩) τ.ch.length τ.cap), (11, vI (τ.ch.length : Int)), (12, vI (x : Int))]) (fun x w => x ≤ τ.ch.length ∧ I x w) (fun x => τ.ch.length - x) 0 (fun w hS => ⟨Nat.zero_le _, hEE 0 _ _ hS.none h0⟩) (fun x w hp => hSS _ _ hp.2) ⟨rfl, rfl, rfl, rfl, rfl, trivial⟩ ?_
  intro x w hp
  refine c_seq ?_
  refine c_region ?_
  refine seqq (o_y (y_lssZ rfl rfl) rfl ?_)
  refine c_nil ?_
  refine c_seq ?_
  refine c_if rfl (fun h13 => ?_) (fun h13 => ?_)
  ·
    have I1 := ins_nd τ _ (ok.c.lt x (by omega))
    refine c_skip ?_
    refine c_seq ?_
    refine c_block ?_
    refine c_seq ?_
    refine c_region ?_
    refine seqq (o_y (y_move rfl) rfl ?_)
    refine seqq (o_y (y_indexAddrS Tryz.runUnderlying89 Tryz.sizeOf84 rfl rfl (by omega)) rfl ?_)
    refine seqq (o_y (l_ch x rfl (by omega) (by omega)) rfl ?_)
    refine seqq (o_y (y_assign rfl) rfl ?_)
    refine seqq (o_y (y_assign rfl) rfl ?_)
    refine c_nil ?_
    refine c_seq ?_
    refine c_regionI ?_
    refine i_op rfl (o_y (y_move rfl) rfl ?_)
    refine i_op rfl (o_y (y_move rfl) rfl ?_)
    refine i_op rfl (o_y (y_move rfl) rfl ?_)
    refine i_op rfl (o_y (y_nilCheck rfl) rfl ?_)
    refine i_op rfl (o_y (y_fieldAddr Tryz.runUnderlying86 rfl Tryz.sizeOf26 rfl rfl) rfl ?_)
    refine i_op rfl (o_y (lN Tryz.isAgg26 Tryz.sizeOf26 rfl (by rfl)) rfl ?_)
    refine i_yieldI (k := x) rfl rfl rfl (fun w2 hw => hEE x _ _ hw.none hp.2) (fun w2 hw => hRR x w2 _ (by simp only [chXs]; rw [List.getElem?_map, List.getElem?_eq_getElem (by simp; omega)]; simp <;> rfl) hw) (fun w2 hw => hSS (x + 1) w2 hw) (fun w2 hI2 => ?_) (fun w2 hX2 => ?_)
    ·
      refine i_op rfl (o_y (y_not (b := true) rfl) rfl ?_)
      refine i_nil ?_
      refine c_condF rfl ?_
      refine c_skip ?_
      refine c_region ?_
      refine seqq (o_y (y_addI rfl rfl (by omega)) rfl ?_)
      refine j_re 25 rfl (show _ = vI ((x + 1 : Nat) : Int) from rfl) ?_
      refine seqq (o_y (y_move rfl) rfl ?_)
      refine c_nil ?_
      exact c_rounded (x + 1) (fun w hw => ⟨by omega, hEE _ _ _ hw.none hI2⟩) (by omega) ⟨rfl, rfl, rfl, rfl, rfl, trivial⟩
    ·
      refine i_op rfl (o_y (y_not (b := false) rfl) rfl ?_)
      refine i_nil ?_
      refine c_condT rfl ?_
      refine c_ret ?_
      refine c_done0 Tryz.results86  (fun w hS => ?_)
      exact .inr (hXX _ _ hS.none hX2)
  ·
    refine c_exit ?_
    refine c_end ?_
    refine c_done0 Tryz.results86  (fun w hS => ?_)
    have hx : x = τ.ch.length := by omega
    subst hx
    exact .inl (by simp only [chXs, List.length_map, List.length_range]; exact hEE _ _ _ hS.none hp.2)
