/- Walks and laws of this claim, part Adj. -/
import Derived.Test.YtjoniieoaokimaaGreatVPrs
set_option linter.unusedVariables false
set_option linter.unusedSimpArgs false
set_option linter.unusedSectionVars false
set_option autoImplicit true
set_option relaxedAutoImplicit true
set_option maxRecDepth 100000
set_option maxHeartbeats 1000000
namespace Go.Proofs
open V
structure Rl where
  every : Int
  span : BitVec 32
  limit : BitVec 32
  confirm : Int
  first : Hd
def rlP (r : Rl) : List Part := [P1 (vI r.every) rfl, P1 (bv .u32 r.span) rfl, P1 (bv .u32 r.limit) rfl, P1 (vI r.confirm) rfl, P1 (bv .u32 r.first.ver) rfl, hP r.first.ahead, hP r.first.root, P1 (bv .u32 r.first.time) rfl, P1 (bv .u32 r.first.bits) rfl, P1 (bv .u32 r.first.nonce) rfl]
def vRl (r : Rl) : Value := vagg (rlP r)
def checkR (r : Rl) : Int :=
  if r.every < 2 ∨ r.every > 2016 ∨ r.span.toNat < (1#32).toNat ∨ (2147483648#32).toNat < r.span.toNat ∨ r.confirm < 1 ∨ r.confirm > 100 then 1
  else if decT r.limit = 0 then 6 else checkH r.first (decT r.limit)

theorem adj_Check (r : Rl) : Pure Tryz.prog 21 [vRl r] (vI (checkR r)) := by
  intro w
  have hd := decT_lt r.limit
  refine begin0 Tryz.func21 rfl Tryz.ntmps21 rfl ?_
  refine c_seq ?_
  refine c_region ?_
  refine seqq (o_box (T := 30) rfl (IsP.agg).cells rfl (fun b1 => ?_))
  refine seqq (o_y (y_assign rfl) rfl ?_)
  refine c_nil ?_
  refine c_seq ?_
  refine c_seq ?_
  refine c_region ?_
  refine seqq (o_y (y_fieldAddr Tryz.runUnderlying30 rfl Tryz.sizeOf3 rfl rfl) rfl ?_)
  refine seqq (o_y (l1 Tryz.isAgg3 rfl (by rfl)) rfl ?_)
  refine seqq (o_y (y_lssZ rfl rfl) rfl ?_)
  refine seqq (o_y (y_move rfl) rfl ?_)
  refine j_if 8 rfl (fun h8 => ?_) (fun h8 => ?_)
  ·
    refine seqq (guard_false (c := true) rfl rfl rfl rfl ?_)
    refine seqq (guard_false (c := true) rfl rfl rfl rfl ?_)
    refine seqq (guard_false (c := true) rfl rfl rfl rfl ?_)
    refine seqq (o_y (y_pick_t rfl rfl) rfl ?_)
    refine seqq (o_y (y_move rfl) rfl ?_)
    refine seqq (guard_false (c := true) rfl rfl rfl rfl ?_)
    refine seqq (guard_false (c := true) rfl rfl rfl rfl ?_)
    refine seqq (guard_false (c := true) rfl rfl rfl rfl ?_)
    refine seqq (o_y (y_pick_t rfl rfl) rfl ?_)
    refine seqq (o_y (y_move rfl) rfl ?_)
    refine seqq (guard_false (c := true) rfl rfl rfl rfl ?_)
    refine seqq (guard_false (c := true) rfl rfl rfl rfl ?_)
    refine seqq (guard_false (c := true) rfl rfl rfl rfl ?_)
    refine seqq (o_y (y_pick_t rfl rfl) rfl ?_)
    refine seqq (o_y (y_move rfl) rfl ?_)
    refine seqq (guard_false (c := true) rfl rfl rfl rfl ?_)
    refine seqq (guard_false (c := true) rfl rfl rfl rfl ?_)
    refine seqq (guard_false (c := true) rfl rfl rfl rfl ?_)
    refine seqq (o_y (y_pick_t rfl rfl) rfl ?_)
    refine seqq (o_y (y_move rfl) rfl ?_)
    refine seqq (guard_false (c := true) rfl rfl rfl rfl ?_)
    refine seqq (guard_false (c := true) rfl rfl rfl rfl ?_)
    refine seqq (guard_false (c := true) rfl rfl rfl rfl ?_)
    refine seqq (o_y (y_pick_t rfl rfl) rfl ?_)
    refine c_nil ?_
    refine c_condT rfl ?_
    refine c_seq ?_
    refine c_region ?_
    refine seqq (o_y (y_assign rfl) rfl ?_)
    refine c_nil ?_
    refine c_ret ?_
    refine c_done1 Tryz.results21 (.tmp rfl) (fun w hS => ?_)
    exact ⟨by rw [checkR, if_pos (by first | exact .inl h8 | exact .inr (.inl h13) | exact .inr (.inr (.inl h18)) | exact .inr (.inr (.inr (.inl h23))) | exact .inr (.inr (.inr (.inr (.inl h28)))) | exact .inr (.inr (.inr (.inr (.inr h32)))))], hS.none⟩
  ·
    refine seqq (guard_true rfl rfl (o_y (y_fieldAddr Tryz.runUnderlying30 rfl Tryz.sizeOf3 rfl rfl) rfl ?_))
    refine seqq (guard_true rfl rfl (o_y (l1 Tryz.isAgg3 rfl (by rfl)) rfl ?_))
    refine seqq (guard_true rfl rfl (o_y (y_gtrZ rfl rfl) rfl ?_))
    refine seqq (o_y (y_pick_f rfl rfl) rfl ?_)
    refine seqq (o_y (y_move rfl) rfl ?_)
    refine j_if 13 rfl (fun h13 => ?_) (fun h13 => ?_)
    ·
      refine seqq (guard_false (c := true) rfl rfl rfl rfl ?_)
      refine seqq (guard_false (c := true) rfl rfl rfl rfl ?_)
      refine seqq (guard_false (c := true) rfl rfl rfl rfl ?_)
      refine seqq (o_y (y_pick_t rfl rfl) rfl ?_)
      refine seqq (o_y (y_move rfl) rfl ?_)
      refine seqq (guard_false (c := true) rfl rfl rfl rfl ?_)
      refine seqq (guard_false (c := true) rfl rfl rfl rfl ?_)
      refine seqq (guard_false (c := true) rfl rfl rfl rfl ?_)
      refine seqq (o_y (y_pick_t rfl rfl) rfl ?_)
      refine seqq (o_y (y_move rfl) rfl ?_)
      refine seqq (guard_false (c := true) rfl rfl rfl rfl ?_)
      refine seqq (guard_false (c := true) rfl rfl rfl rfl ?_)
      refine seqq (guard_false (c := true) rfl rfl rfl rfl ?_)
      refine seqq (o_y (y_pick_t rfl rfl) rfl ?_)
      refine seqq (o_y (y_move rfl) rfl ?_)
      refine seqq (guard_false (c := true) rfl rfl rfl rfl ?_)
      refine seqq (guard_false (c := true) rfl rfl rfl rfl ?_)
      refine seqq (guard_false (c := true) rfl rfl rfl rfl ?_)
      refine seqq (o_y (y_pick_t rfl rfl) rfl ?_)
      refine c_nil ?_
      refine c_condT rfl ?_
      refine c_seq ?_
      refine c_region ?_
      refine seqq (o_y (y_assign rfl) rfl ?_)
      refine c_nil ?_
      refine c_ret ?_
      refine c_done1 Tryz.results21 (.tmp rfl) (fun w hS => ?_)
      exact ⟨by rw [checkR, if_pos (by first | exact .inl h8 | exact .inr (.inl h13) | exact .inr (.inr (.inl h18)) | exact .inr (.inr (.inr (.inl h23))) | exact .inr (.inr (.inr (.inr (.inl h28)))) | exact .inr (.inr (.inr (.inr (.inr h32)))))], hS.none⟩
    ·
      refine seqq (guard_true rfl rfl (o_y (y_fieldAddr Tryz.runUnderlying30 rfl Tryz.sizeOf22 rfl rfl) rfl ?_))
      refine seqq (guard_true rfl rfl (o_y (l1 Tryz.isAgg22 rfl (by rfl)) rfl ?_))
      refine seqq (guard_true rfl rfl (o_y (y_lssB (Y := 1#32) rfl rfl) rfl ?_))
      refine seqq (o_y (y_pick_f rfl rfl) rfl ?_)
      refine seqq (o_y (y_move rfl) rfl ?_)
      refine j_if 18 rfl (fun h18 => ?_) (fun h18 => ?_)
      ·
        refine seqq (guard_false (c := true) rfl rfl rfl rfl ?_)
        refine seqq (guard_false (c := true) rfl rfl rfl rfl ?_)
        refine seqq (guard_false (c := true) rfl rfl rfl rfl ?_)
        refine seqq (o_y (y_pick_t rfl rfl) rfl ?_)
        refine seqq (o_y (y_move rfl) rfl ?_)
        refine seqq (guard_false (c := true) rfl rfl rfl rfl ?_)
        refine seqq (guard_false (c := true) rfl rfl rfl rfl ?_)
        refine seqq (guard_false (c := true) rfl rfl rfl rfl ?_)
        refine seqq (o_y (y_pick_t rfl rfl) rfl ?_)
        refine seqq (o_y (y_move rfl) rfl ?_)
        refine seqq (guard_false (c := true) rfl rfl rfl rfl ?_)
        refine seqq (guard_false (c := true) rfl rfl rfl rfl ?_)
        refine seqq (guard_false (c := true) rfl rfl rfl rfl ?_)
        refine seqq (o_y (y_pick_t rfl rfl) rfl ?_)
        refine c_nil ?_
        refine c_condT rfl ?_
        refine c_seq ?_
        refine c_region ?_
        refine seqq (o_y (y_assign rfl) rfl ?_)
        refine c_nil ?_
        refine c_ret ?_
        refine c_done1 Tryz.results21 (.tmp rfl) (fun w hS => ?_)
        exact ⟨by rw [checkR, if_pos (by first | exact .inl h8 | exact .inr (.inl h13) | exact .inr (.inr (.inl h18)) | exact .inr (.inr (.inr (.inl h23))) | exact .inr (.inr (.inr (.inr (.inl h28)))) | exact .inr (.inr (.inr (.inr (.inr h32)))))], hS.none⟩
      ·
        refine seqq (guard_true rfl rfl (o_y (y_fieldAddr Tryz.runUnderlying30 rfl Tryz.sizeOf22 rfl rfl) rfl ?_))
        refine seqq (guard_true rfl rfl (o_y (l1 Tryz.isAgg22 rfl (by rfl)) rfl ?_))
        refine seqq (guard_true rfl rfl (o_y (y_gtrB (Y := 2147483648#32) rfl rfl) rfl ?_))
        refine seqq (o_y (y_pick_f rfl rfl) rfl ?_)
        refine seqq (o_y (y_move rfl) rfl ?_)
        refine j_if 23 rfl (fun h23 => ?_) (fun h23 => ?_)
        ·
          refine seqq (guard_false (c := true) rfl rfl rfl rfl ?_)
          refine seqq (guard_false (c := true) rfl rfl rfl rfl ?_)
          refine seqq (guard_false (c := true) rfl rfl rfl rfl ?_)
          refine seqq (o_y (y_pick_t rfl rfl) rfl ?_)
          refine seqq (o_y (y_move rfl) rfl ?_)
          refine seqq (guard_false (c := true) rfl rfl rfl rfl ?_)
          refine seqq (guard_false (c := true) rfl rfl rfl rfl ?_)
          refine seqq (guard_false (c := true) rfl rfl rfl rfl ?_)
          refine seqq (o_y (y_pick_t rfl rfl) rfl ?_)
          refine c_nil ?_
          refine c_condT rfl ?_
          refine c_seq ?_
          refine c_region ?_
          refine seqq (o_y (y_assign rfl) rfl ?_)
          refine c_nil ?_
          refine c_ret ?_
          refine c_done1 Tryz.results21 (.tmp rfl) (fun w hS => ?_)
          exact ⟨by rw [checkR, if_pos (by first | exact .inl h8 | exact .inr (.inl h13) | exact .inr (.inr (.inl h18)) | exact .inr (.inr (.inr (.inl h23))) | exact .inr (.inr (.inr (.inr (.inl h28)))) | exact .inr (.inr (.inr (.inr (.inr h32)))))], hS.none⟩
        ·
          refine seqq (guard_true rfl rfl (o_y (y_fieldAddr Tryz.runUnderlying30 rfl Tryz.sizeOf3 rfl rfl) rfl ?_))
          refine seqq (guard_true rfl rfl (o_y (l1 Tryz.isAgg3 rfl (by rfl)) rfl ?_))
          refine seqq (guard_true rfl rfl (o_y (y_lssZ rfl rfl) rfl ?_))
          refine seqq (o_y (y_pick_f rfl rfl) rfl ?_)
          refine seqq (o_y (y_move rfl) rfl ?_)
          refine j_if 28 rfl (fun h28 => ?_) (fun h28 => ?_)
          ·
            refine seqq (guard_false (c := true) rfl rfl rfl rfl ?_)
            refine seqq (guard_false (c := true) rfl rfl rfl rfl ?_)
            refine seqq (guard_false (c := true) rfl rfl rfl rfl ?_)
            refine seqq (o_y (y_pick_t rfl rfl) rfl ?_)
            refine c_nil ?_
            refine c_condT rfl ?_
            refine c_seq ?_
            refine c_region ?_
            refine seqq (o_y (y_assign rfl) rfl ?_)
            refine c_nil ?_
            refine c_ret ?_
            refine c_done1 Tryz.results21 (.tmp rfl) (fun w hS => ?_)
            exact ⟨by rw [checkR, if_pos (by first | exact .inl h8 | exact .inr (.inl h13) | exact .inr (.inr (.inl h18)) | exact .inr (.inr (.inr (.inl h23))) | exact .inr (.inr (.inr (.inr (.inl h28)))) | exact .inr (.inr (.inr (.inr (.inr h32)))))], hS.none⟩
          ·
            refine seqq (guard_true rfl rfl (o_y (y_fieldAddr Tryz.runUnderlying30 rfl Tryz.sizeOf3 rfl rfl) rfl ?_))
            refine seqq (guard_true rfl rfl (o_y (l1 Tryz.isAgg3 rfl (by rfl)) rfl ?_))
            refine seqq (guard_true rfl rfl (o_y (y_gtrZ rfl rfl) rfl ?_))
            refine seqq (o_y (y_pick_f rfl rfl) rfl ?_)
            refine c_nil ?_
            refine c_if rfl (fun h32 => ?_) (fun h32 => ?_)
            ·
              refine c_seq ?_
              refine c_region ?_
              refine seqq (o_y (y_assign rfl) rfl ?_)
              refine c_nil ?_
              refine c_ret ?_
              refine c_done1 Tryz.results21 (.tmp rfl) (fun w hS => ?_)
              exact ⟨by rw [checkR, if_pos (by first | exact .inl h8 | exact .inr (.inl h13) | exact .inr (.inr (.inl h18)) | exact .inr (.inr (.inr (.inl h23))) | exact .inr (.inr (.inr (.inr (.inl h28)))) | exact .inr (.inr (.inr (.inr (.inr h32)))))], hS.none⟩
            ·
              have hc : ¬ (r.every < 2 ∨ r.every > 2016 ∨ r.span.toNat < (1#32).toNat ∨ (2147483648#32).toNat < r.span.toNat ∨ r.confirm < 1 ∨ r.confirm > 100) := by rintro (h | h | h | h | h | h) <;> first | exact h8 h | exact h13 h | exact h18 h | exact h23 h | exact h28 h | exact h32 h
              have e : checkR r = if decT r.limit = 0 then 6 else checkH r.first (decT r.limit) := if_neg hc
              refine c_skip ?_
              refine c_seq ?_
              refine c_region ?_
              refine seqq (o_y (y_fieldAddr Tryz.runUnderlying30 rfl Tryz.sizeOf22 rfl rfl) rfl ?_)
              refine seqq (o_y (l1 Tryz.isAgg22 rfl (by rfl)) rfl ?_)
              refine seqq (o_pure Tryz.call62 rfl (target_Decode _) rfl ?_)
              refine seqq (o_y (y_move rfl) rfl ?_)
              refine seqq (o_y (y_extract rfl rfl) rfl ?_)
              refine seqq (o_y (y_extract rfl rfl) rfl ?_)
              refine seqq (o_alloc (ps := wideN 0) Tryz.zeroValue51 (by kernel_rfl) rfl (fun b3 => ?_))
              refine seqq (stN Tryz.sizeOf51 rfl rfl (by rfl) rfl (by rfl) ?_)
              refine seqq (o_y (y_assign rfl) rfl ?_)
              refine c_nil ?_
              refine c_seq ?_
              refine c_seq ?_
              refine c_region ?_
              refine seqq (o_y (y_move rfl) rfl ?_)
              refine seqq (o_y (y_neqZ rfl rfl) rfl ?_)
              refine c_nil ?_
              refine c_ifn rfl (fun h40 => ?_) (fun h40 => ?_)
              ·
                refine c_seq ?_
                refine c_region ?_
                refine seqq (o_y (y_move rfl) rfl ?_)
                refine seqq (o_y (y_assign rfl) rfl ?_)
                refine c_nil ?_
                refine c_ret ?_
                refine c_done1 Tryz.results21 (.tmp rfl) (fun w hS => ?_)
                exact ⟨by rw [e, if_pos (err6T h40), if_pos (err6T h40)], hS.none⟩
              ·
                refine c_skip ?_
                refine c_seq ?_
                refine c_region ?_
                refine seqq (o_y (y_fieldAddr Tryz.runUnderlying30 rfl Tryz.sizeOf28 rfl rfl) rfl ?_)
                refine seqq (o_y (lN Tryz.isAgg28 Tryz.sizeOf28 rfl (by rfl)) rfl ?_)
                refine seqq (o_y (lN Tryz.isAgg51 Tryz.sizeOf51 rfl (by rfl)) rfl ?_)
                refine seqq (o_pure Tryz.call39 rfl (hdr_Check _ _ (by assumption)) rfl ?_)
                refine seqq (o_y (y_assign rfl) rfl ?_)
                refine c_nil ?_
                refine c_ret ?_
                refine c_done1 Tryz.results21 (.tmp rfl) (fun w hS => ?_)
                exact ⟨by rw [e, if_neg (err6F h40)], hS.none⟩

theorem adj_Top (r : Rl) : Pure Tryz.prog 72 [vRl r] (vW (decT r.limit)) := by
  intro w
  refine begin0 Tryz.func72 rfl Tryz.ntmps72 rfl ?_
  refine c_seq ?_
  refine c_region ?_
  refine seqq (o_box (T := 30) rfl (IsP.agg).cells rfl (fun b1 => ?_))
  refine seqq (o_alloc (ps := wideN 0) Tryz.zeroValue51 (by kernel_rfl) rfl (fun b2 => ?_))
  refine c_nil ?_
  refine c_seq ?_
  refine c_region ?_
  refine seqq (o_y (y_fieldAddr Tryz.runUnderlying30 rfl Tryz.sizeOf22 rfl rfl) rfl ?_)
  refine seqq (o_y (l1 Tryz.isAgg22 rfl (by rfl)) rfl ?_)
  refine seqq (o_pure Tryz.call62 rfl (target_Decode _) rfl ?_)
  refine seqq (o_y (y_move rfl) rfl ?_)
  refine seqq (o_y (y_extract rfl rfl) rfl ?_)
  refine seqq (o_y (y_extract rfl rfl) rfl ?_)
  refine seqq (o_alloc (ps := wideN 0) Tryz.zeroValue51 (by kernel_rfl) rfl (fun b3 => ?_))
  refine seqq (stN Tryz.sizeOf51 rfl rfl (by rfl) rfl (by rfl) ?_)
  refine seqq (o_y (y_assign rfl) rfl ?_)
  refine c_nil ?_
  refine c_seq ?_
  refine c_region ?_
  refine seqq (o_y (lN Tryz.isAgg51 Tryz.sizeOf51 rfl (by rfl)) rfl ?_)
  refine seqq (stN Tryz.sizeOf51 rfl rfl (by rfl) rfl (by rfl) ?_)
  refine c_nil ?_
  refine c_ret ?_
  refine c_done1 Tryz.results72 (rN Tryz.isAgg51 Tryz.sizeOf51 rfl (by rfl)) (fun w hS => ?_)
  exact ⟨rfl, hS.none⟩

def dueR (r : Rl) (h : Int) : Bool := decide (r.every > 0) && decide (h > 0) && decide (h % r.every = 0)

theorem adj_Due (r : Rl) (h : Int) : Pure Tryz.prog 100 [vRl r, vI h] (.bool (dueR r h)) := by
  intro w
  refine begin0 Tryz.func100 rfl Tryz.ntmps100 rfl ?_
  refine c_seq ?_
  refine c_region ?_
  refine seqq (o_box (T := 30) rfl (IsP.agg).cells rfl (fun b2 => ?_))
  refine seqq (o_y (y_assign rfl) rfl ?_)
  refine c_nil ?_
  refine c_seq ?_
  refine c_region ?_
  refine seqq (o_y (y_fieldAddr Tryz.runUnderlying30 rfl Tryz.sizeOf3 rfl rfl) rfl ?_)
  refine seqq (o_y (l1 Tryz.isAgg3 rfl (by rfl)) rfl ?_)
  refine seqq (o_y (y_gtrZ rfl rfl) rfl ?_)
  refine seqq (o_y (y_move rfl) rfl ?_)
  refine j_if 8 rfl (fun h8 => ?_) (fun h8 => ?_)
  ·
    refine seqq (guard_true rfl rfl (o_y (y_move rfl) rfl ?_))
    refine seqq (guard_true rfl rfl (o_y (y_gtrZ rfl rfl) rfl ?_))
    refine seqq (o_y (y_pick_t rfl rfl) rfl ?_)
    refine seqq (o_y (y_move rfl) rfl ?_)
    refine j_if 12 rfl (fun h12 => ?_) (fun h12 => ?_)
    ·
      refine seqq (guard_true rfl rfl (o_y (y_move rfl) rfl ?_))
      refine seqq (guard_true rfl rfl (o_y (y_fieldAddr Tryz.runUnderlying30 rfl Tryz.sizeOf3 rfl rfl) rfl ?_))
      refine seqq (guard_true rfl rfl (o_y (l1 Tryz.isAgg3 rfl (by rfl)) rfl ?_))
      refine seqq (guard_true rfl rfl (o_y (y_remI rfl rfl (by omega)) rfl ?_))
      refine seqq (guard_true rfl rfl (o_y (y_eqlZ rfl rfl) rfl ?_))
      refine seqq (o_y (y_pick_t rfl rfl) rfl ?_)
      refine seqq (o_y (y_assign rfl) rfl ?_)
      refine c_nil ?_
      refine c_ret ?_
      refine c_done1 Tryz.results100 (.tmp rfl) (fun w hS => ?_)
      exact ⟨by simp only [dueR]; simp_all <;> (try (intros; omega)), hS.none⟩
    ·
      refine seqq (guard_false (c := false) rfl rfl rfl rfl ?_)
      refine seqq (guard_false (c := false) rfl rfl rfl rfl ?_)
      refine seqq (guard_false (c := false) rfl rfl rfl rfl ?_)
      refine seqq (guard_false (c := false) rfl rfl rfl rfl ?_)
      refine seqq (guard_false (c := false) rfl rfl rfl rfl ?_)
      refine seqq (o_y (y_pick_f rfl rfl) rfl ?_)
      refine seqq (o_y (y_assign rfl) rfl ?_)
      refine c_nil ?_
      refine c_ret ?_
      refine c_done1 Tryz.results100 (.tmp rfl) (fun w hS => ?_)
      exact ⟨by simp only [dueR]; simp_all <;> (try (intros; omega)), hS.none⟩
  ·
    refine seqq (guard_false (c := false) rfl rfl rfl rfl ?_)
    refine seqq (guard_false (c := false) rfl rfl rfl rfl ?_)
    refine seqq (o_y (y_pick_f rfl rfl) rfl ?_)
    refine seqq (o_y (y_move rfl) rfl ?_)
    refine seqq (guard_false (c := false) rfl rfl rfl rfl ?_)
    refine seqq (guard_false (c := false) rfl rfl rfl rfl ?_)
    refine seqq (guard_false (c := false) rfl rfl rfl rfl ?_)
    refine seqq (guard_false (c := false) rfl rfl rfl rfl ?_)
    refine seqq (guard_false (c := false) rfl rfl rfl rfl ?_)
    refine seqq (o_y (y_pick_f rfl rfl) rfl ?_)
    refine seqq (o_y (y_assign rfl) rfl ?_)
    refine c_nil ?_
    refine c_ret ?_
    refine c_done1 Tryz.results100 (.tmp rfl) (fun w hS => ?_)
    exact ⟨by simp only [dueR]; simp_all <;> (try (intros; omega)), hS.none⟩

/-- the bits behind bits that held for a time -/
def tookR (r : Rl) (took : Int) : Int := if (r.span.toNat : Int) * 4 < max (max took ((r.span.toNat : Int) / 4)) 1 then (r.span.toNat : Int) * 4 else max (max took ((r.span.toNat : Int) / 4)) 1
def scaleR (r : Rl) (b : BitVec 32) (took : Int) : Nat × Int := scaleT (decT b) (BitVec.ofInt 64 (tookR r took)).toNat (BitVec.ofInt 64 (r.span.toNat : Int)).toNat (decT r.limit)
def nextR (r : Rl) (b : BitVec 32) (took : Int) : BitVec 32 × Int :=
  if decT b = 0 then (0#32, 6) else if decT r.limit = 0 then (0#32, 6) else if (r.span.toNat : Int) = 0 then (0#32, 1)
  else if (scaleR r b took).2 = 0 then (encT (scaleR r b took).1, 0) else (0#32, (scaleR r b took).2)

theorem adj_Next (r : Rl) (b : BitVec 32) (took : Int) : Pure Tryz.prog 102 [vRl r, bv .u32 b, .int .i64 took] (.tuple #[bv .u32 (nextR r b took).1, vI (nextR r b took).2]) := by
  intro w
  have hd := decT_lt b
  have hl := decT_lt r.limit
  have hs := r.span.isLt
  have hsc : (scaleR r b took).1 < M256 := scaleT_lt _ _ _ _ hl
  refine begin0 Tryz.func102 rfl Tryz.ntmps102 rfl ?_
  refine c_seq ?_
  refine c_region ?_
  refine seqq (o_box (T := 30) rfl (IsP.agg).cells rfl (fun b3 => ?_))
  refine seqq (o_y (y_assign (v := bv .u32 0#32) rfl) rfl ?_)
  refine seqq (o_y (y_assign rfl) rfl ?_)
  refine c_nil ?_
  refine c_seq ?_
  refine c_region ?_
  refine seqq (o_y (y_move rfl) rfl ?_)
  refine seqq (o_pure Tryz.call62 rfl (target_Decode _) rfl ?_)
  refine seqq (o_y (y_move rfl) rfl ?_)
  refine seqq (o_y (y_extract rfl rfl) rfl ?_)
  refine seqq (o_y (y_extract rfl rfl) rfl ?_)
  refine seqq (o_alloc (ps := wideN 0) Tryz.zeroValue51 (by kernel_rfl) rfl (fun b8 => ?_))
  refine seqq (stN Tryz.sizeOf51 rfl rfl (by rfl) rfl (by rfl) ?_)
  refine seqq (o_y (y_assign rfl) rfl ?_)
  refine c_nil ?_
  refine c_seq ?_
  refine c_seq ?_
  refine c_region ?_
  refine seqq (o_y (y_move rfl) rfl ?_)
  refine seqq (o_y (y_neqZ rfl rfl) rfl ?_)
  refine c_nil ?_
  refine c_ifn rfl (fun h19 => ?_) (fun h19 => ?_)
  ·
    refine c_seq ?_
    refine c_region ?_
    refine seqq (o_y (y_move rfl) rfl ?_)
    refine seqq (o_y (y_assign (v := bv .u32 0#32) rfl) rfl ?_)
    refine seqq (o_y (y_assign rfl) rfl ?_)
    refine c_nil ?_
    refine c_ret ?_
    refine c_done2 Tryz.results102 (.tmp rfl) (.tmp rfl) (fun w hS => ?_)
    have e : nextR r b took = (0#32, 6) := if_pos (err6T h19)
    exact ⟨by rw [e, if_pos (err6T h19)], hS.none⟩
  ·
    refine c_skip ?_
    refine c_seq ?_
    refine c_region ?_
    refine seqq (o_y (y_fieldAddr Tryz.runUnderlying30 rfl Tryz.sizeOf22 rfl rfl) rfl ?_)
    refine seqq (o_y (l1 Tryz.isAgg22 rfl (by rfl)) rfl ?_)
    refine seqq (o_pure Tryz.call62 rfl (target_Decode _) rfl ?_)
    refine seqq (o_y (y_move rfl) rfl ?_)
    refine seqq (o_y (y_extract rfl rfl) rfl ?_)
    refine seqq (o_y (y_extract rfl rfl) rfl ?_)
    refine seqq (o_alloc (ps := wideN 0) Tryz.zeroValue51 (by kernel_rfl) rfl (fun b10 => ?_))
    refine seqq (stN Tryz.sizeOf51 rfl rfl (by rfl) rfl (by rfl) ?_)
    refine seqq (o_y (y_assign rfl) rfl ?_)
    refine c_nil ?_
    refine c_seq ?_
    refine c_seq ?_
    refine c_region ?_
    refine seqq (o_y (y_move rfl) rfl ?_)
    refine seqq (o_y (y_neqZ rfl rfl) rfl ?_)
    refine c_nil ?_
    refine c_ifn rfl (fun h28 => ?_) (fun h28 => ?_)
    ·
      refine c_seq ?_
      refine c_region ?_
      refine seqq (o_y (y_move rfl) rfl ?_)
      refine seqq (o_y (y_assign (v := bv .u32 0#32) rfl) rfl ?_)
      refine seqq (o_y (y_assign rfl) rfl ?_)
      refine c_nil ?_
      refine c_ret ?_
      refine c_done2 Tryz.results102 (.tmp rfl) (.tmp rfl) (fun w hS => ?_)
      have e : nextR r b took = (0#32, 6) := by rw [nextR, if_neg (err6F h19), if_pos (err6T h28)]
      exact ⟨by rw [e, if_pos (err6T h28)], hS.none⟩
    ·
      refine c_skip ?_
      refine c_seq ?_
      refine c_region ?_
      refine seqq (o_y (y_fieldAddr Tryz.runUnderlying30 rfl Tryz.sizeOf22 rfl rfl) rfl ?_)
      refine seqq (o_y (l1 Tryz.isAgg22 rfl (by rfl)) rfl ?_)
      refine seqq (o_y (y_convBI Tryz.runUnderlying22 Tryz.runUnderlying2 rfl (cvu32 _)) rfl ?_)
      refine seqq (o_y (y_assign rfl) rfl ?_)
      refine c_nil ?_
      refine c_seq ?_
      refine c_region ?_
      refine seqq (o_y (y_move rfl) rfl ?_)
      refine seqq (o_y (y_move rfl) rfl ?_)
      refine seqq (o_y (y_quoI rfl rfl (by omega)) rfl ?_)
      refine seqq (o_y (y_max3 rfl rfl rfl) rfl ?_)
      refine seqq (o_y (y_move rfl) rfl ?_)
      refine seqq (o_y (y_mulI rfl rfl (by omega)) rfl ?_)
      refine seqq (o_y (y_minI rfl rfl) rfl ?_)
      refine j_re 39 rfl (show _ = vI (tookR r took) from rfl) ?_
      refine seqq (o_y (y_assign rfl) rfl ?_)
      refine c_nil ?_
      refine c_seq ?_
      refine c_seq ?_
      refine c_region ?_
      refine seqq (o_y (y_move rfl) rfl ?_)
      refine seqq (o_y (y_eqlZ rfl rfl) rfl ?_)
      refine c_nil ?_
      refine c_if rfl (fun h41 => ?_) (fun h41 => ?_)
      ·
        refine c_seq ?_
        refine c_region ?_
        refine seqq (o_y (y_assign (v := bv .u32 0#32) rfl) rfl ?_)
        refine seqq (o_y (y_assign rfl) rfl ?_)
        refine c_nil ?_
        refine c_ret ?_
        refine c_done2 Tryz.results102 (.tmp rfl) (.tmp rfl) (fun w hS => ?_)
        have e : nextR r b took = (0#32, 1) := by rw [nextR, if_neg (err6F h19), if_neg (err6F h28), if_pos h41]
        exact ⟨by rw [e], hS.none⟩
      ·
        refine c_skip ?_
        refine c_seq ?_
        refine c_region ?_
        refine seqq (o_y (lN Tryz.isAgg51 Tryz.sizeOf51 rfl (by rfl)) rfl ?_)
        refine seqq (o_y (y_move rfl) rfl ?_)
        refine seqq (o_y (y_convZB UK.u64 Tryz.runUnderlying2 Tryz.runUnderlying49 rfl) rfl ?_)
        refine seqq (o_y (y_move rfl) rfl ?_)
        refine seqq (o_y (y_convZB UK.u64 Tryz.runUnderlying2 Tryz.runUnderlying49 rfl) rfl ?_)
        refine seqq (o_y (lN Tryz.isAgg51 Tryz.sizeOf51 rfl (by rfl)) rfl ?_)
        refine seqq (o_pure Tryz.call120 rfl (target_Scale _ _ _ _ (by assumption) (by assumption)) rfl ?_)
        refine j_re 49 rfl (show _ = .tuple #[vW (scaleR r b took).1, vI (scaleR r b took).2] from rfl) ?_
        refine seqq (o_y (y_move rfl) rfl ?_)
        refine seqq (o_y (y_extract rfl rfl) rfl ?_)
        refine seqq (o_y (y_extract rfl rfl) rfl ?_)
        refine seqq (o_alloc (ps := wideN 0) Tryz.zeroValue51 (by kernel_rfl) rfl (fun b12 => ?_))
        refine seqq (stN Tryz.sizeOf51 rfl rfl (by rfl) rfl (by rfl) ?_)
        refine seqq (o_y (y_assign rfl) rfl ?_)
        refine c_nil ?_
        refine c_seq ?_
        refine c_seq ?_
        refine c_region ?_
        refine seqq (o_y (y_move rfl) rfl ?_)
        refine seqq (o_y (y_neqZ rfl rfl) rfl ?_)
        refine c_nil ?_
        refine c_ifn rfl (fun h53 => ?_) (fun h53 => ?_)
        ·
          refine c_seq ?_
          refine c_region ?_
          refine seqq (o_y (y_move rfl) rfl ?_)
          refine seqq (o_y (y_assign (v := bv .u32 0#32) rfl) rfl ?_)
          refine seqq (o_y (y_assign rfl) rfl ?_)
          refine c_nil ?_
          refine c_ret ?_
          refine c_done2 Tryz.results102 (.tmp rfl) (.tmp rfl) (fun w hS => ?_)
          have e : nextR r b took = (0#32, (scaleR r b took).2) := by rw [nextR, if_neg (err6F h19), if_neg (err6F h28), if_neg h41, if_neg h53]
          exact ⟨by rw [e], hS.none⟩
        ·
          refine c_skip ?_
          refine c_seq ?_
          refine c_region ?_
          refine seqq (o_y (lN Tryz.isAgg51 Tryz.sizeOf51 rfl (by rfl)) rfl ?_)
          refine seqq (o_pure Tryz.call121 rfl (target_Encode _ (by assumption)) rfl ?_)
          refine seqq (o_y (y_assign rfl) rfl ?_)
          refine seqq (o_y (y_assign rfl) rfl ?_)
          refine c_nil ?_
          refine c_ret ?_
          refine c_done2 Tryz.results102 (.tmp rfl) (.tmp rfl) (fun w hS => ?_)
          have e : nextR r b took = (encT (scaleR r b took).1, 0) := by rw [nextR, if_neg (err6F h19), if_neg (err6F h28), if_neg h41, if_pos h53]
          exact ⟨by rw [e], hS.none⟩
