/- Walks and laws of this claim, part Wide. -/
import Derived.Test.YtjoniieoaokimaaGreatVNum4
import Derived.Test.YtjoniieoaokimaaGreatVPlain
set_option linter.unusedVariables false
set_option linter.unusedSimpArgs false
set_option linter.unusedSectionVars false
set_option autoImplicit true
set_option relaxedAutoImplicit true
set_option maxRecDepth 100000
set_option maxHeartbeats 1000000
namespace Go.Proofs
open V
theorem mixed : Tryz.prog.follows .mixedOrders = true := rfl
theorem f_add64 : ∀ args w, (callFunc 74 args).run Tryz.prog w = ((add64Entry args).run Tryz.prog w).andThen fun v w' => .ok (.value v) w' :=
  fun args w => run_callFunc_extern Tryz.func74 (by kernel_rfl) (by kernel_rfl) (by kernel_rfl) (e := add64Entry) (by kernel_rfl) args w
theorem f_sub64 : ∀ args w, (callFunc 132 args).run Tryz.prog w = ((sub64Entry args).run Tryz.prog w).andThen fun v w' => .ok (.value v) w' :=
  fun args w => run_callFunc_extern Tryz.func132 (by kernel_rfl) (by kernel_rfl) (by kernel_rfl) (e := sub64Entry) (by kernel_rfl) args w
theorem bits_Len64 (x : BitVec 64) : Pure Tryz.prog 112 [bv .u64 x] (vI (Lib.bitLen x.toNat)) := by
  refine pure_of fun w => (Tryz.bits_Len64 (x.toNat : Int) w (by omega) (by have := x.isLt; omega)).mono ?_
  rintro e w' ⟨h1, h2⟩; exact ⟨by simpa using h1, h2⟩
theorem bits_Mul64 (x y : BitVec 64) : Pure Tryz.prog 141 [bv .u64 x, bv .u64 y] (.tuple [bv .u64 (BitVec.ofNat 64 (x.toNat * y.toNat / 18446744073709551616)), bv .u64 (BitVec.ofNat 64 (x.toNat * y.toNat))].toArray) := by
  refine pure_of fun w => (Tryz.bits_Mul64 x.toNat y.toNat (by have := x.isLt; omega) (by have := y.isLt; omega) w).mono ?_
  rintro e w' ⟨h1, h2⟩
  refine ⟨?_, h2⟩
  have hx := x.isLt
  have hy := y.isLt
  have h3 : x.toNat * y.toNat / 18446744073709551616 < 18446744073709551616 := by
    have : x.toNat * y.toNat < 18446744073709551616 * 18446744073709551616 := Nat.mul_lt_mul'' (by omega) (by omega)
    exact Nat.div_lt_of_lt_mul this
  have e1 : (BitVec.ofNat 64 (x.toNat * y.toNat / 18446744073709551616)).toNat = x.toNat * y.toNat / 18446744073709551616 := by rw [BitVec.toNat_ofNat]; exact Nat.mod_eq_of_lt h3
  have e2 : (BitVec.ofNat 64 (x.toNat * y.toNat)).toNat = x.toNat * y.toNat % 18446744073709551616 := by rw [BitVec.toNat_ofNat]
  rw [h1]; simp only [bv, e1, e2]


theorem wide_Of0 (x : BitVec 64) : Pure Tryz.prog 87 [bv .u64 x] (vagg (wide x 0 0 0)) := by
  intro w
  refine begin0 Tryz.func87 rfl Tryz.ntmps87 rfl ?_
  refine c_seq ?_
  refine c_region ?_
  refine seqq (o_alloc (ps := [P1 (bv .u64 0#64), P1 (bv .u64 0#64), P1 (bv .u64 0#64), P1 (bv .u64 0#64)]) Tryz.zeroValue51 (by kernel_rfl) rfl (fun b2 => ?_))
  refine c_nil ?_
  refine c_seq ?_
  refine c_region ?_
  refine seqq (o_y (y_move rfl) rfl ?_)
  refine seqq (o_y (y_buildA (zs := [P1 (bv .u64 0#64), P1 (bv .u64 0#64), P1 (bv .u64 0#64), P1 (bv .u64 0#64)]) Tryz.runUnderlying51 Tryz.sizeOf49 Tryz.zeroValue51 (by kernel_rfl) (.one rfl rfl .nil) (by rfl)) rfl ?_)
  refine seqq (stN Tryz.sizeOf51 rfl rfl (by rfl) rfl (by rfl) ?_)
  refine c_nil ?_
  refine c_ret ?_
  refine c_done1 Tryz.results87 (rN Tryz.isAgg51 Tryz.sizeOf51 rfl (by rfl)) (fun w hS => ?_)
  exact ⟨rfl, hS.none⟩

def wcmp (a b c d a' b' c' d' : BitVec 64) : Int :=
  if d.toNat < d'.toNat then -1 else if d'.toNat < d.toNat then 1 else if c.toNat < c'.toNat then -1 else if c'.toNat < c.toNat then 1 else
  if b.toNat < b'.toNat then -1 else if b'.toNat < b.toNat then 1 else if a.toNat < a'.toNat then -1 else if a'.toNat < a.toNat then 1 else 0
theorem wide_Cmp0 (a b c d a' b' c' d' : BitVec 64) : Pure Tryz.prog 17 [vagg (wide a b c d), vagg (wide a' b' c' d')] (vI (wcmp a b c d a' b' c' d')) := by
  intro w
  refine begin0 Tryz.func17 rfl Tryz.ntmps17 rfl ?_
  refine c_seq ?_
  refine c_region ?_
  refine seqq (o_box (T := 51) rfl (IsP.agg).cells rfl (fun b2 => ?_))
  refine seqq (o_box (T := 51) rfl (IsP.agg).cells rfl (fun b3 => ?_))
  refine seqq (o_y (y_assign rfl) rfl ?_)
  refine c_nil ?_
  refine c_seq ?_
  refine c_seq ?_
  refine c_region ?_
  refine seqq (o_y (y_assign rfl) rfl ?_)
  refine c_nil ?_
  refine c_block ?_
  refine c_loop 5 ?_
  refine c_round ?_
  refine c_seq ?_
  refine c_seq ?_
  refine c_region ?_
  refine seqq (o_y (y_move rfl) rfl ?_)
  refine seqq (o_y (y_binZ (v := .bool true) rfl rfl (fun _ => by rfl)) rfl ?_)
  refine c_nil ?_
  refine c_condT rfl ?_
  refine c_skip ?_
  refine c_seq ?_
  refine c_block ?_
  refine c_block ?_
  refine c_seq ?_
  refine d_reg 8 mixed rfl ?_
  refine d_y (i := 0) (k' := 1) rfl (by kernel_rfl) (y_move rfl) rfl ?_
  refine d_y (i := 1) (k' := 3) rfl (by kernel_rfl) (y_indexAddrA Tryz.runUnderlying51 Tryz.sizeOf49 rfl rfl (by decide)) rfl ?_
  refine d_s (i := 2) (k' := 7) rfl (by kernel_rfl) (by kernel_rfl) (l1 Tryz.isAgg49 rfl (by rfl)) hss rfl ?_
  refine d_y (i := 3) (k' := 15) rfl (by kernel_rfl) (y_move rfl) rfl ?_
  refine d_y (i := 4) (k' := 31) rfl (by kernel_rfl) (y_indexAddrA Tryz.runUnderlying51 Tryz.sizeOf49 rfl rfl (by decide)) rfl ?_
  refine d_s (i := 5) (k' := 63) rfl (by kernel_rfl) (by kernel_rfl) (l1 Tryz.isAgg49 rfl (by rfl)) hss rfl ?_
  refine d_y (i := 6) (k' := 127) rfl (by kernel_rfl) (y_lssB rfl rfl) rfl ?_
  refine d_y (i := 7) (k' := 255) rfl (by kernel_rfl) (y_assign rfl) rfl ?_
  refine d_end (by kernel_rfl) ?_
  refine c_if rfl (fun h10 => ?_) (fun h10 => ?_)
  ·
    refine c_seq ?_
    refine c_region ?_
    refine seqq (o_y (y_assign rfl) rfl ?_)
    refine c_nil ?_
    refine c_ret ?_
    refine c_done1 Tryz.results17 (.tmp rfl) (fun w hS => ?_)
    exact ⟨by unfold wcmp; simp only [*, if_true, if_false], hS.none⟩
  ·
    refine c_seq ?_
    refine d_reg 8 mixed rfl ?_
    refine d_y (i := 0) (k' := 1) rfl (by kernel_rfl) (y_move rfl) rfl ?_
    refine d_y (i := 1) (k' := 3) rfl (by kernel_rfl) (y_indexAddrA Tryz.runUnderlying51 Tryz.sizeOf49 rfl rfl (by decide)) rfl ?_
    refine d_s (i := 2) (k' := 7) rfl (by kernel_rfl) (by kernel_rfl) (l1 Tryz.isAgg49 rfl (by rfl)) hss rfl ?_
    refine d_y (i := 3) (k' := 15) rfl (by kernel_rfl) (y_move rfl) rfl ?_
    refine d_y (i := 4) (k' := 31) rfl (by kernel_rfl) (y_indexAddrA Tryz.runUnderlying51 Tryz.sizeOf49 rfl rfl (by decide)) rfl ?_
    refine d_s (i := 5) (k' := 63) rfl (by kernel_rfl) (by kernel_rfl) (l1 Tryz.isAgg49 rfl (by rfl)) hss rfl ?_
    refine d_y (i := 6) (k' := 127) rfl (by kernel_rfl) (y_gtrB rfl rfl) rfl ?_
    refine d_y (i := 7) (k' := 255) rfl (by kernel_rfl) (y_assign rfl) rfl ?_
    refine d_end (by kernel_rfl) ?_
    refine c_if rfl (fun h18 => ?_) (fun h18 => ?_)
    ·
      refine c_seq ?_
      refine c_region ?_
      refine seqq (o_y (y_assign rfl) rfl ?_)
      refine c_nil ?_
      refine c_ret ?_
      refine c_done1 Tryz.results17 (.tmp rfl) (fun w hS => ?_)
      exact ⟨by unfold wcmp; simp only [*, if_true, if_false], hS.none⟩
    ·
      refine c_skip ?_
      refine c_region ?_
      refine seqq (o_y (y_move rfl) rfl ?_)
      refine seqq (o_y (y_binZ (v := .int .i64 2) rfl rfl (fun _ => by rfl)) rfl ?_)
      refine seqq (o_y (y_assign rfl) rfl ?_)
      refine c_nil ?_
      refine c_round ?_
      refine c_seq ?_
      refine c_seq ?_
      refine c_region ?_
      refine seqq (o_y (y_move rfl) rfl ?_)
      refine seqq (o_y (y_binZ (v := .bool true) rfl rfl (fun _ => by rfl)) rfl ?_)
      refine c_nil ?_
      refine c_condT rfl ?_
      refine c_skip ?_
      refine c_seq ?_
      refine c_block ?_
      refine c_block ?_
      refine c_seq ?_
      refine d_reg 8 mixed rfl ?_
      refine d_y (i := 0) (k' := 1) rfl (by kernel_rfl) (y_move rfl) rfl ?_
      refine d_y (i := 1) (k' := 3) rfl (by kernel_rfl) (y_indexAddrA Tryz.runUnderlying51 Tryz.sizeOf49 rfl rfl (by decide)) rfl ?_
      refine d_s (i := 2) (k' := 7) rfl (by kernel_rfl) (by kernel_rfl) (l1 Tryz.isAgg49 rfl (by rfl)) hss rfl ?_
      refine d_y (i := 3) (k' := 15) rfl (by kernel_rfl) (y_move rfl) rfl ?_
      refine d_y (i := 4) (k' := 31) rfl (by kernel_rfl) (y_indexAddrA Tryz.runUnderlying51 Tryz.sizeOf49 rfl rfl (by decide)) rfl ?_
      refine d_s (i := 5) (k' := 63) rfl (by kernel_rfl) (by kernel_rfl) (l1 Tryz.isAgg49 rfl (by rfl)) hss rfl ?_
      refine d_y (i := 6) (k' := 127) rfl (by kernel_rfl) (y_lssB rfl rfl) rfl ?_
      refine d_y (i := 7) (k' := 255) rfl (by kernel_rfl) (y_assign rfl) rfl ?_
      refine d_end (by kernel_rfl) ?_
      refine c_if rfl (fun h10 => ?_) (fun h10 => ?_)
      ·
        refine c_seq ?_
        refine c_region ?_
        refine seqq (o_y (y_assign rfl) rfl ?_)
        refine c_nil ?_
        refine c_ret ?_
        refine c_done1 Tryz.results17 (.tmp rfl) (fun w hS => ?_)
        exact ⟨by unfold wcmp; simp only [*, if_true, if_false], hS.none⟩
      ·
        refine c_seq ?_
        refine d_reg 8 mixed rfl ?_
        refine d_y (i := 0) (k' := 1) rfl (by kernel_rfl) (y_move rfl) rfl ?_
        refine d_y (i := 1) (k' := 3) rfl (by kernel_rfl) (y_indexAddrA Tryz.runUnderlying51 Tryz.sizeOf49 rfl rfl (by decide)) rfl ?_
        refine d_s (i := 2) (k' := 7) rfl (by kernel_rfl) (by kernel_rfl) (l1 Tryz.isAgg49 rfl (by rfl)) hss rfl ?_
        refine d_y (i := 3) (k' := 15) rfl (by kernel_rfl) (y_move rfl) rfl ?_
        refine d_y (i := 4) (k' := 31) rfl (by kernel_rfl) (y_indexAddrA Tryz.runUnderlying51 Tryz.sizeOf49 rfl rfl (by decide)) rfl ?_
        refine d_s (i := 5) (k' := 63) rfl (by kernel_rfl) (by kernel_rfl) (l1 Tryz.isAgg49 rfl (by rfl)) hss rfl ?_
        refine d_y (i := 6) (k' := 127) rfl (by kernel_rfl) (y_gtrB rfl rfl) rfl ?_
        refine d_y (i := 7) (k' := 255) rfl (by kernel_rfl) (y_assign rfl) rfl ?_
        refine d_end (by kernel_rfl) ?_
        refine c_if rfl (fun h18 => ?_) (fun h18 => ?_)
        ·
          refine c_seq ?_
          refine c_region ?_
          refine seqq (o_y (y_assign rfl) rfl ?_)
          refine c_nil ?_
          refine c_ret ?_
          refine c_done1 Tryz.results17 (.tmp rfl) (fun w hS => ?_)
          exact ⟨by unfold wcmp; simp only [*, if_true, if_false], hS.none⟩
        ·
          refine c_skip ?_
          refine c_region ?_
          refine seqq (o_y (y_move rfl) rfl ?_)
          refine seqq (o_y (y_binZ (v := .int .i64 1) rfl rfl (fun _ => by rfl)) rfl ?_)
          refine seqq (o_y (y_assign rfl) rfl ?_)
          refine c_nil ?_
          refine c_round ?_
          refine c_seq ?_
          refine c_seq ?_
          refine c_region ?_
          refine seqq (o_y (y_move rfl) rfl ?_)
          refine seqq (o_y (y_binZ (v := .bool true) rfl rfl (fun _ => by rfl)) rfl ?_)
          refine c_nil ?_
          refine c_condT rfl ?_
          refine c_skip ?_
          refine c_seq ?_
          refine c_block ?_
          refine c_block ?_
          refine c_seq ?_
          refine d_reg 8 mixed rfl ?_
          refine d_y (i := 0) (k' := 1) rfl (by kernel_rfl) (y_move rfl) rfl ?_
          refine d_y (i := 1) (k' := 3) rfl (by kernel_rfl) (y_indexAddrA Tryz.runUnderlying51 Tryz.sizeOf49 rfl rfl (by decide)) rfl ?_
          refine d_s (i := 2) (k' := 7) rfl (by kernel_rfl) (by kernel_rfl) (l1 Tryz.isAgg49 rfl (by rfl)) hss rfl ?_
          refine d_y (i := 3) (k' := 15) rfl (by kernel_rfl) (y_move rfl) rfl ?_
          refine d_y (i := 4) (k' := 31) rfl (by kernel_rfl) (y_indexAddrA Tryz.runUnderlying51 Tryz.sizeOf49 rfl rfl (by decide)) rfl ?_
          refine d_s (i := 5) (k' := 63) rfl (by kernel_rfl) (by kernel_rfl) (l1 Tryz.isAgg49 rfl (by rfl)) hss rfl ?_
          refine d_y (i := 6) (k' := 127) rfl (by kernel_rfl) (y_lssB rfl rfl) rfl ?_
          refine d_y (i := 7) (k' := 255) rfl (by kernel_rfl) (y_assign rfl) rfl ?_
          refine d_end (by kernel_rfl) ?_
          refine c_if rfl (fun h10 => ?_) (fun h10 => ?_)
          ·
            refine c_seq ?_
            refine c_region ?_
            refine seqq (o_y (y_assign rfl) rfl ?_)
            refine c_nil ?_
            refine c_ret ?_
            refine c_done1 Tryz.results17 (.tmp rfl) (fun w hS => ?_)
            exact ⟨by unfold wcmp; simp only [*, if_true, if_false], hS.none⟩
          ·
            refine c_seq ?_
            refine d_reg 8 mixed rfl ?_
            refine d_y (i := 0) (k' := 1) rfl (by kernel_rfl) (y_move rfl) rfl ?_
            refine d_y (i := 1) (k' := 3) rfl (by kernel_rfl) (y_indexAddrA Tryz.runUnderlying51 Tryz.sizeOf49 rfl rfl (by decide)) rfl ?_
            refine d_s (i := 2) (k' := 7) rfl (by kernel_rfl) (by kernel_rfl) (l1 Tryz.isAgg49 rfl (by rfl)) hss rfl ?_
            refine d_y (i := 3) (k' := 15) rfl (by kernel_rfl) (y_move rfl) rfl ?_
            refine d_y (i := 4) (k' := 31) rfl (by kernel_rfl) (y_indexAddrA Tryz.runUnderlying51 Tryz.sizeOf49 rfl rfl (by decide)) rfl ?_
            refine d_s (i := 5) (k' := 63) rfl (by kernel_rfl) (by kernel_rfl) (l1 Tryz.isAgg49 rfl (by rfl)) hss rfl ?_
            refine d_y (i := 6) (k' := 127) rfl (by kernel_rfl) (y_gtrB rfl rfl) rfl ?_
            refine d_y (i := 7) (k' := 255) rfl (by kernel_rfl) (y_assign rfl) rfl ?_
            refine d_end (by kernel_rfl) ?_
            refine c_if rfl (fun h18 => ?_) (fun h18 => ?_)
            ·
              refine c_seq ?_
              refine c_region ?_
              refine seqq (o_y (y_assign rfl) rfl ?_)
              refine c_nil ?_
              refine c_ret ?_
              refine c_done1 Tryz.results17 (.tmp rfl) (fun w hS => ?_)
              exact ⟨by unfold wcmp; simp only [*, if_true, if_false], hS.none⟩
            ·
              refine c_skip ?_
              refine c_region ?_
              refine seqq (o_y (y_move rfl) rfl ?_)
              refine seqq (o_y (y_binZ (v := .int .i64 0) rfl rfl (fun _ => by rfl)) rfl ?_)
              refine seqq (o_y (y_assign rfl) rfl ?_)
              refine c_nil ?_
              refine c_round ?_
              refine c_seq ?_
              refine c_seq ?_
              refine c_region ?_
              refine seqq (o_y (y_move rfl) rfl ?_)
              refine seqq (o_y (y_binZ (v := .bool true) rfl rfl (fun _ => by rfl)) rfl ?_)
              refine c_nil ?_
              refine c_condT rfl ?_
              refine c_skip ?_
              refine c_seq ?_
              refine c_block ?_
              refine c_block ?_
              refine c_seq ?_
              refine d_reg 8 mixed rfl ?_
              refine d_y (i := 0) (k' := 1) rfl (by kernel_rfl) (y_move rfl) rfl ?_
              refine d_y (i := 1) (k' := 3) rfl (by kernel_rfl) (y_indexAddrA Tryz.runUnderlying51 Tryz.sizeOf49 rfl rfl (by decide)) rfl ?_
              refine d_s (i := 2) (k' := 7) rfl (by kernel_rfl) (by kernel_rfl) (l1 Tryz.isAgg49 rfl (by rfl)) hss rfl ?_
              refine d_y (i := 3) (k' := 15) rfl (by kernel_rfl) (y_move rfl) rfl ?_
              refine d_y (i := 4) (k' := 31) rfl (by kernel_rfl) (y_indexAddrA Tryz.runUnderlying51 Tryz.sizeOf49 rfl rfl (by decide)) rfl ?_
              refine d_s (i := 5) (k' := 63) rfl (by kernel_rfl) (by kernel_rfl) (l1 Tryz.isAgg49 rfl (by rfl)) hss rfl ?_
              refine d_y (i := 6) (k' := 127) rfl (by kernel_rfl) (y_lssB rfl rfl) rfl ?_
              refine d_y (i := 7) (k' := 255) rfl (by kernel_rfl) (y_assign rfl) rfl ?_
              refine d_end (by kernel_rfl) ?_
              refine c_if rfl (fun h10 => ?_) (fun h10 => ?_)
              ·
                refine c_seq ?_
                refine c_region ?_
                refine seqq (o_y (y_assign rfl) rfl ?_)
                refine c_nil ?_
                refine c_ret ?_
                refine c_done1 Tryz.results17 (.tmp rfl) (fun w hS => ?_)
                exact ⟨by unfold wcmp; simp only [*, if_true, if_false], hS.none⟩
              ·
                refine c_seq ?_
                refine d_reg 8 mixed rfl ?_
                refine d_y (i := 0) (k' := 1) rfl (by kernel_rfl) (y_move rfl) rfl ?_
                refine d_y (i := 1) (k' := 3) rfl (by kernel_rfl) (y_indexAddrA Tryz.runUnderlying51 Tryz.sizeOf49 rfl rfl (by decide)) rfl ?_
                refine d_s (i := 2) (k' := 7) rfl (by kernel_rfl) (by kernel_rfl) (l1 Tryz.isAgg49 rfl (by rfl)) hss rfl ?_
                refine d_y (i := 3) (k' := 15) rfl (by kernel_rfl) (y_move rfl) rfl ?_
                refine d_y (i := 4) (k' := 31) rfl (by kernel_rfl) (y_indexAddrA Tryz.runUnderlying51 Tryz.sizeOf49 rfl rfl (by decide)) rfl ?_
                refine d_s (i := 5) (k' := 63) rfl (by kernel_rfl) (by kernel_rfl) (l1 Tryz.isAgg49 rfl (by rfl)) hss rfl ?_
                refine d_y (i := 6) (k' := 127) rfl (by kernel_rfl) (y_gtrB rfl rfl) rfl ?_
                refine d_y (i := 7) (k' := 255) rfl (by kernel_rfl) (y_assign rfl) rfl ?_
                refine d_end (by kernel_rfl) ?_
                refine c_if rfl (fun h18 => ?_) (fun h18 => ?_)
                ·
                  refine c_seq ?_
                  refine c_region ?_
                  refine seqq (o_y (y_assign rfl) rfl ?_)
                  refine c_nil ?_
                  refine c_ret ?_
                  refine c_done1 Tryz.results17 (.tmp rfl) (fun w hS => ?_)
                  exact ⟨by unfold wcmp; simp only [*, if_true, if_false], hS.none⟩
                ·
                  refine c_skip ?_
                  refine c_region ?_
                  refine seqq (o_y (y_move rfl) rfl ?_)
                  refine seqq (o_y (y_binZ (v := .int .i64 (-1)) rfl rfl (fun _ => by rfl)) rfl ?_)
                  refine seqq (o_y (y_assign rfl) rfl ?_)
                  refine c_nil ?_
                  refine c_round ?_
                  refine c_seq ?_
                  refine c_seq ?_
                  refine c_region ?_
                  refine seqq (o_y (y_move rfl) rfl ?_)
                  refine seqq (o_y (y_binZ (v := .bool false) rfl rfl (fun _ => by rfl)) rfl ?_)
                  refine c_nil ?_
                  refine c_condF rfl ?_
                  refine c_exit ?_
                  refine c_seq ?_
                  refine c_region ?_
                  refine seqq (o_y (y_assign rfl) rfl ?_)
                  refine c_nil ?_
                  refine c_ret ?_
                  refine c_done1 Tryz.results17 (.tmp rfl) (fun w hS => ?_)
                  exact ⟨by unfold wcmp; simp only [*, if_true, if_false], hS.none⟩

theorem wide_Not0 (a b c d : BitVec 64) : Pure Tryz.prog 40 [vagg (wide a b c d)] (vagg (wide (~~~a) (~~~b) (~~~c) (~~~d))) := by
  intro w
  refine begin0 Tryz.func40 rfl Tryz.ntmps40 rfl ?_
  refine c_seq ?_
  refine c_region ?_
  refine seqq (o_box (T := 51) rfl (IsP.agg).cells rfl (fun b1 => ?_))
  refine seqq (o_alloc (ps := [P1 (bv .u64 0#64), P1 (bv .u64 0#64), P1 (bv .u64 0#64), P1 (bv .u64 0#64)]) Tryz.zeroValue51 (by kernel_rfl) rfl (fun b2 => ?_))
  refine c_nil ?_
  refine c_seq ?_
  refine c_seq ?_
  refine c_region ?_
  refine seqq (o_y (y_move rfl) rfl ?_)
  refine c_nil ?_
  refine c_block ?_
  refine c_loop 5 ?_
  refine c_round ?_
  refine c_seq ?_
  refine c_region ?_
  refine seqq (o_y (y_binZ (v := .bool true) rfl rfl (fun _ => by rfl)) rfl ?_)
  refine c_nil ?_
  refine c_seq ?_
  refine c_condT rfl ?_
  refine c_skip ?_
  refine c_seq ?_
  refine c_block ?_
  refine c_seq ?_
  refine c_region ?_
  refine seqq (o_y (y_move rfl) rfl ?_)
  refine seqq (o_y (y_assign rfl) rfl ?_)
  refine c_nil ?_
  refine c_region ?_
  refine seqq (o_y (y_move rfl) rfl ?_)
  refine seqq (o_y (y_move rfl) rfl ?_)
  refine seqq (o_y (y_indexAddrA Tryz.runUnderlying51 Tryz.sizeOf49 rfl rfl (by decide)) rfl ?_)
  refine seqq (o_y (l1 Tryz.isAgg49 rfl (by rfl)) rfl ?_)
  refine seqq (o_y (y_notB UK.u64 rfl) rfl ?_)
  refine seqq (o_y (y_indexAddrA Tryz.runUnderlying51 Tryz.sizeOf49 rfl rfl (by decide)) rfl ?_)
  refine seqq (st1 (h1 := rfl) Tryz.sizeOf49 rfl rfl (by rfl) (by rfl) ?_)
  refine c_nil ?_
  refine c_region ?_
  refine seqq (o_y (y_binZ (v := .int .i64 1) rfl rfl (fun _ => by rfl)) rfl ?_)
  refine seqq (o_y (y_move rfl) rfl ?_)
  refine c_nil ?_
  refine c_round ?_
  refine c_seq ?_
  refine c_region ?_
  refine seqq (o_y (y_binZ (v := .bool true) rfl rfl (fun _ => by rfl)) rfl ?_)
  refine c_nil ?_
  refine c_seq ?_
  refine c_condT rfl ?_
  refine c_skip ?_
  refine c_seq ?_
  refine c_block ?_
  refine c_seq ?_
  refine c_region ?_
  refine seqq (o_y (y_move rfl) rfl ?_)
  refine seqq (o_y (y_assign rfl) rfl ?_)
  refine c_nil ?_
  refine c_region ?_
  refine seqq (o_y (y_move rfl) rfl ?_)
  refine seqq (o_y (y_move rfl) rfl ?_)
  refine seqq (o_y (y_indexAddrA Tryz.runUnderlying51 Tryz.sizeOf49 rfl rfl (by decide)) rfl ?_)
  refine seqq (o_y (l1 Tryz.isAgg49 rfl (by rfl)) rfl ?_)
  refine seqq (o_y (y_notB UK.u64 rfl) rfl ?_)
  refine seqq (o_y (y_indexAddrA Tryz.runUnderlying51 Tryz.sizeOf49 rfl rfl (by decide)) rfl ?_)
  refine seqq (st1 (h1 := rfl) Tryz.sizeOf49 rfl rfl (by rfl) (by rfl) ?_)
  refine c_nil ?_
  refine c_region ?_
  refine seqq (o_y (y_binZ (v := .int .i64 2) rfl rfl (fun _ => by rfl)) rfl ?_)
  refine seqq (o_y (y_move rfl) rfl ?_)
  refine c_nil ?_
  refine c_round ?_
  refine c_seq ?_
  refine c_region ?_
  refine seqq (o_y (y_binZ (v := .bool true) rfl rfl (fun _ => by rfl)) rfl ?_)
  refine c_nil ?_
  refine c_seq ?_
  refine c_condT rfl ?_
  refine c_skip ?_
  refine c_seq ?_
  refine c_block ?_
  refine c_seq ?_
  refine c_region ?_
  refine seqq (o_y (y_move rfl) rfl ?_)
  refine seqq (o_y (y_assign rfl) rfl ?_)
  refine c_nil ?_
  refine c_region ?_
  refine seqq (o_y (y_move rfl) rfl ?_)
  refine seqq (o_y (y_move rfl) rfl ?_)
  refine seqq (o_y (y_indexAddrA Tryz.runUnderlying51 Tryz.sizeOf49 rfl rfl (by decide)) rfl ?_)
  refine seqq (o_y (l1 Tryz.isAgg49 rfl (by rfl)) rfl ?_)
  refine seqq (o_y (y_notB UK.u64 rfl) rfl ?_)
  refine seqq (o_y (y_indexAddrA Tryz.runUnderlying51 Tryz.sizeOf49 rfl rfl (by decide)) rfl ?_)
  refine seqq (st1 (h1 := rfl) Tryz.sizeOf49 rfl rfl (by rfl) (by rfl) ?_)
  refine c_nil ?_
  refine c_region ?_
  refine seqq (o_y (y_binZ (v := .int .i64 3) rfl rfl (fun _ => by rfl)) rfl ?_)
  refine seqq (o_y (y_move rfl) rfl ?_)
  refine c_nil ?_
  refine c_round ?_
  refine c_seq ?_
  refine c_region ?_
  refine seqq (o_y (y_binZ (v := .bool true) rfl rfl (fun _ => by rfl)) rfl ?_)
  refine c_nil ?_
  refine c_seq ?_
  refine c_condT rfl ?_
  refine c_skip ?_
  refine c_seq ?_
  refine c_block ?_
  refine c_seq ?_
  refine c_region ?_
  refine seqq (o_y (y_move rfl) rfl ?_)
  refine seqq (o_y (y_assign rfl) rfl ?_)
  refine c_nil ?_
  refine c_region ?_
  refine seqq (o_y (y_move rfl) rfl ?_)
  refine seqq (o_y (y_move rfl) rfl ?_)
  refine seqq (o_y (y_indexAddrA Tryz.runUnderlying51 Tryz.sizeOf49 rfl rfl (by decide)) rfl ?_)
  refine seqq (o_y (l1 Tryz.isAgg49 rfl (by rfl)) rfl ?_)
  refine seqq (o_y (y_notB UK.u64 rfl) rfl ?_)
  refine seqq (o_y (y_indexAddrA Tryz.runUnderlying51 Tryz.sizeOf49 rfl rfl (by decide)) rfl ?_)
  refine seqq (st1 (h1 := rfl) Tryz.sizeOf49 rfl rfl (by rfl) (by rfl) ?_)
  refine c_nil ?_
  refine c_region ?_
  refine seqq (o_y (y_binZ (v := .int .i64 4) rfl rfl (fun _ => by rfl)) rfl ?_)
  refine seqq (o_y (y_move rfl) rfl ?_)
  refine c_nil ?_
  refine c_round ?_
  refine c_seq ?_
  refine c_region ?_
  refine seqq (o_y (y_binZ (v := .bool false) rfl rfl (fun _ => by rfl)) rfl ?_)
  refine c_nil ?_
  refine c_seq ?_
  refine c_condF rfl ?_
  refine c_exit ?_
  refine c_seq ?_
  refine c_region ?_
  refine seqq (o_y (lN Tryz.isAgg51 Tryz.sizeOf51 rfl (by rfl)) rfl ?_)
  refine seqq (stN Tryz.sizeOf51 rfl rfl (by rfl) rfl (by rfl) ?_)
  refine c_nil ?_
  refine c_ret ?_
  refine c_done1 Tryz.results40 (rN Tryz.isAgg51 Tryz.sizeOf51 rfl (by rfl)) (fun w hS => ?_)
  exact ⟨rfl, hS.none⟩

theorem wide_Add0 (a b c d a' b' c' d' : BitVec 64) : Pure Tryz.prog 43 [vagg (wide a b c d), vagg (wide a' b' c' d')]
    (.tuple #[vagg (wide (wadd a b c d a' b' c' d').1.1 (wadd a b c d a' b' c' d').1.2.1 (wadd a b c d a' b' c' d').1.2.2.1 (wadd a b c d a' b' c' d').1.2.2.2), .bool (decide ((wadd a b c d a' b' c' d').2 = 1#64))]) := by
  intro w
  refine begin0 Tryz.func43 rfl Tryz.ntmps43 rfl ?_
  refine c_seq ?_
  refine c_region ?_
  refine seqq (o_box (T := 51) rfl (IsP.agg).cells rfl (fun b2 => ?_))
  refine seqq (o_box (T := 51) rfl (IsP.agg).cells rfl (fun b3 => ?_))
  refine seqq (o_alloc (ps := [P1 (bv .u64 0#64), P1 (bv .u64 0#64), P1 (bv .u64 0#64), P1 (bv .u64 0#64)]) Tryz.zeroValue51 (by kernel_rfl) rfl (fun b4 => ?_))
  refine seqq (o_y (y_assign rfl) rfl ?_)
  refine c_nil ?_
  refine c_seq ?_
  refine c_region ?_
  refine seqq (o_alloc (ps := [P1 (bv .u64 0#64), P1 (bv .u64 0#64), P1 (bv .u64 0#64), P1 (bv .u64 0#64)]) Tryz.zeroValue51 (by kernel_rfl) rfl (fun b6 => ?_))
  refine c_nil ?_
  refine c_seq ?_
  refine c_region ?_
  refine seqq (o_y (y_assign (v := bv .u64 0#64) rfl) rfl ?_)
  refine c_nil ?_
  refine c_seq ?_
  refine c_seq ?_
  refine c_region ?_
  refine seqq (o_y (y_move rfl) rfl ?_)
  refine c_nil ?_
  refine c_block ?_
  refine c_loop 5 ?_
  refine c_round ?_
  refine c_seq ?_
  refine c_region ?_
  refine seqq (o_y (y_binZ (v := .bool true) rfl rfl (fun _ => by rfl)) rfl ?_)
  refine c_nil ?_
  refine c_seq ?_
  refine c_condT rfl ?_
  refine c_skip ?_
  refine c_seq ?_
  refine c_block ?_
  refine c_seq ?_
  refine c_region ?_
  refine seqq (o_y (y_move rfl) rfl ?_)
  refine seqq (o_y (y_assign rfl) rfl ?_)
  refine c_nil ?_
  refine d_reg 13 mixed rfl ?_
  refine d_y (i := 0) (k' := 1) rfl (by kernel_rfl) (y_move rfl) rfl ?_
  refine d_y (i := 1) (k' := 3) rfl (by kernel_rfl) (y_move rfl) rfl ?_
  refine d_y (i := 2) (k' := 7) rfl (by kernel_rfl) (y_indexAddrA Tryz.runUnderlying51 Tryz.sizeOf49 rfl rfl (by decide)) rfl ?_
  refine d_s (i := 3) (k' := 15) rfl (by kernel_rfl) (by kernel_rfl) (l1 Tryz.isAgg49 rfl (by rfl)) hss rfl ?_
  refine d_y (i := 4) (k' := 31) rfl (by kernel_rfl) (y_move rfl) rfl ?_
  refine d_y (i := 5) (k' := 63) rfl (by kernel_rfl) (y_indexAddrA Tryz.runUnderlying51 Tryz.sizeOf49 rfl rfl (by decide)) rfl ?_
  refine d_s (i := 6) (k' := 127) rfl (by kernel_rfl) (by kernel_rfl) (l1 Tryz.isAgg49 rfl (by rfl)) hss rfl ?_
  refine d_y (i := 7) (k' := 255) rfl (by kernel_rfl) (y_move rfl) rfl ?_
  refine d_y (i := 8) (k' := 511) rfl (by kernel_rfl) (y_add64 f_add64 rfl rfl rfl (by decide)) rfl ?_
  refine d_y (i := 9) (k' := 1023) rfl (by kernel_rfl) (y_move rfl) rfl ?_
  refine d_y (i := 10) (k' := 2047) rfl (by kernel_rfl) (y_extract rfl rfl) rfl ?_
  refine d_y (i := 11) (k' := 4095) rfl (by kernel_rfl) (y_extract rfl rfl) rfl ?_
  refine d_y (i := 12) (k' := 8191) rfl (by kernel_rfl) (y_indexAddrA Tryz.runUnderlying51 Tryz.sizeOf49 rfl rfl (by decide)) rfl ?_
  refine d_e (i := 13) (k' := 16383) rfl (by kernel_rfl) (st1 (h1 := rfl) Tryz.sizeOf49 rfl rfl (by rfl) (by rfl) ( d_past rfl ?_))
  refine d_y (i := 14) (k' := 32767) rfl (by kernel_rfl) (y_assign rfl) rfl ?_
  refine d_end (by kernel_rfl) ?_
  refine c_region ?_
  refine seqq (o_y (y_binZ (v := .int .i64 1) rfl rfl (fun _ => by rfl)) rfl ?_)
  refine seqq (o_y (y_move rfl) rfl ?_)
  refine c_nil ?_
  refine c_round ?_
  refine c_seq ?_
  refine c_region ?_
  refine seqq (o_y (y_binZ (v := .bool true) rfl rfl (fun _ => by rfl)) rfl ?_)
  refine c_nil ?_
  refine c_seq ?_
  refine c_condT rfl ?_
  refine c_skip ?_
  refine c_seq ?_
  refine c_block ?_
  refine c_seq ?_
  refine c_region ?_
  refine seqq (o_y (y_move rfl) rfl ?_)
  refine seqq (o_y (y_assign rfl) rfl ?_)
  refine c_nil ?_
  refine d_reg 13 mixed rfl ?_
  refine d_y (i := 0) (k' := 1) rfl (by kernel_rfl) (y_move rfl) rfl ?_
  refine d_y (i := 1) (k' := 3) rfl (by kernel_rfl) (y_move rfl) rfl ?_
  refine d_y (i := 2) (k' := 7) rfl (by kernel_rfl) (y_indexAddrA Tryz.runUnderlying51 Tryz.sizeOf49 rfl rfl (by decide)) rfl ?_
  refine d_s (i := 3) (k' := 15) rfl (by kernel_rfl) (by kernel_rfl) (l1 Tryz.isAgg49 rfl (by rfl)) hss rfl ?_
  refine d_y (i := 4) (k' := 31) rfl (by kernel_rfl) (y_move rfl) rfl ?_
  refine d_y (i := 5) (k' := 63) rfl (by kernel_rfl) (y_indexAddrA Tryz.runUnderlying51 Tryz.sizeOf49 rfl rfl (by decide)) rfl ?_
  refine d_s (i := 6) (k' := 127) rfl (by kernel_rfl) (by kernel_rfl) (l1 Tryz.isAgg49 rfl (by rfl)) hss rfl ?_
  refine d_y (i := 7) (k' := 255) rfl (by kernel_rfl) (y_move rfl) rfl ?_
  refine d_y (i := 8) (k' := 511) rfl (by kernel_rfl) (y_add64 f_add64 rfl rfl rfl (carry1 _ _ _ (by decide))) rfl ?_
  refine d_y (i := 9) (k' := 1023) rfl (by kernel_rfl) (y_move rfl) rfl ?_
  refine d_y (i := 10) (k' := 2047) rfl (by kernel_rfl) (y_extract rfl rfl) rfl ?_
  refine d_y (i := 11) (k' := 4095) rfl (by kernel_rfl) (y_extract rfl rfl) rfl ?_
  refine d_y (i := 12) (k' := 8191) rfl (by kernel_rfl) (y_indexAddrA Tryz.runUnderlying51 Tryz.sizeOf49 rfl rfl (by decide)) rfl ?_
  refine d_e (i := 13) (k' := 16383) rfl (by kernel_rfl) (st1 (h1 := rfl) Tryz.sizeOf49 rfl rfl (by rfl) (by rfl) ( d_past rfl ?_))
  refine d_y (i := 14) (k' := 32767) rfl (by kernel_rfl) (y_assign rfl) rfl ?_
  refine d_end (by kernel_rfl) ?_
  refine c_region ?_
  refine seqq (o_y (y_binZ (v := .int .i64 2) rfl rfl (fun _ => by rfl)) rfl ?_)
  refine seqq (o_y (y_move rfl) rfl ?_)
  refine c_nil ?_
  refine c_round ?_
  refine c_seq ?_
  refine c_region ?_
  refine seqq (o_y (y_binZ (v := .bool true) rfl rfl (fun _ => by rfl)) rfl ?_)
  refine c_nil ?_
  refine c_seq ?_
  refine c_condT rfl ?_
  refine c_skip ?_
  refine c_seq ?_
  refine c_block ?_
  refine c_seq ?_
  refine c_region ?_
  refine seqq (o_y (y_move rfl) rfl ?_)
  refine seqq (o_y (y_assign rfl) rfl ?_)
  refine c_nil ?_
  refine d_reg 13 mixed rfl ?_
  refine d_y (i := 0) (k' := 1) rfl (by kernel_rfl) (y_move rfl) rfl ?_
  refine d_y (i := 1) (k' := 3) rfl (by kernel_rfl) (y_move rfl) rfl ?_
  refine d_y (i := 2) (k' := 7) rfl (by kernel_rfl) (y_indexAddrA Tryz.runUnderlying51 Tryz.sizeOf49 rfl rfl (by decide)) rfl ?_
  refine d_s (i := 3) (k' := 15) rfl (by kernel_rfl) (by kernel_rfl) (l1 Tryz.isAgg49 rfl (by rfl)) hss rfl ?_
  refine d_y (i := 4) (k' := 31) rfl (by kernel_rfl) (y_move rfl) rfl ?_
  refine d_y (i := 5) (k' := 63) rfl (by kernel_rfl) (y_indexAddrA Tryz.runUnderlying51 Tryz.sizeOf49 rfl rfl (by decide)) rfl ?_
  refine d_s (i := 6) (k' := 127) rfl (by kernel_rfl) (by kernel_rfl) (l1 Tryz.isAgg49 rfl (by rfl)) hss rfl ?_
  refine d_y (i := 7) (k' := 255) rfl (by kernel_rfl) (y_move rfl) rfl ?_
  refine d_y (i := 8) (k' := 511) rfl (by kernel_rfl) (y_add64 f_add64 rfl rfl rfl (carry1 _ _ _ (carry1 _ _ _ (by decide)))) rfl ?_
  refine d_y (i := 9) (k' := 1023) rfl (by kernel_rfl) (y_move rfl) rfl ?_
  refine d_y (i := 10) (k' := 2047) rfl (by kernel_rfl) (y_extract rfl rfl) rfl ?_
  refine d_y (i := 11) (k' := 4095) rfl (by kernel_rfl) (y_extract rfl rfl) rfl ?_
  refine d_y (i := 12) (k' := 8191) rfl (by kernel_rfl) (y_indexAddrA Tryz.runUnderlying51 Tryz.sizeOf49 rfl rfl (by decide)) rfl ?_
  refine d_e (i := 13) (k' := 16383) rfl (by kernel_rfl) (st1 (h1 := rfl) Tryz.sizeOf49 rfl rfl (by rfl) (by rfl) ( d_past rfl ?_))
  refine d_y (i := 14) (k' := 32767) rfl (by kernel_rfl) (y_assign rfl) rfl ?_
  refine d_end (by kernel_rfl) ?_
  refine c_region ?_
  refine seqq (o_y (y_binZ (v := .int .i64 3) rfl rfl (fun _ => by rfl)) rfl ?_)
  refine seqq (o_y (y_move rfl) rfl ?_)
  refine c_nil ?_
  refine c_round ?_
  refine c_seq ?_
  refine c_region ?_
  refine seqq (o_y (y_binZ (v := .bool true) rfl rfl (fun _ => by rfl)) rfl ?_)
  refine c_nil ?_
  refine c_seq ?_
  refine c_condT rfl ?_
  refine c_skip ?_
  refine c_seq ?_
  refine c_block ?_
  refine c_seq ?_
  refine c_region ?_
  refine seqq (o_y (y_move rfl) rfl ?_)
  refine seqq (o_y (y_assign rfl) rfl ?_)
  refine c_nil ?_
  refine d_reg 13 mixed rfl ?_
  refine d_y (i := 0) (k' := 1) rfl (by kernel_rfl) (y_move rfl) rfl ?_
  refine d_y (i := 1) (k' := 3) rfl (by kernel_rfl) (y_move rfl) rfl ?_
  refine d_y (i := 2) (k' := 7) rfl (by kernel_rfl) (y_indexAddrA Tryz.runUnderlying51 Tryz.sizeOf49 rfl rfl (by decide)) rfl ?_
  refine d_s (i := 3) (k' := 15) rfl (by kernel_rfl) (by kernel_rfl) (l1 Tryz.isAgg49 rfl (by rfl)) hss rfl ?_
  refine d_y (i := 4) (k' := 31) rfl (by kernel_rfl) (y_move rfl) rfl ?_
  refine d_y (i := 5) (k' := 63) rfl (by kernel_rfl) (y_indexAddrA Tryz.runUnderlying51 Tryz.sizeOf49 rfl rfl (by decide)) rfl ?_
  refine d_s (i := 6) (k' := 127) rfl (by kernel_rfl) (by kernel_rfl) (l1 Tryz.isAgg49 rfl (by rfl)) hss rfl ?_
  refine d_y (i := 7) (k' := 255) rfl (by kernel_rfl) (y_move rfl) rfl ?_
  refine d_y (i := 8) (k' := 511) rfl (by kernel_rfl) (y_add64 f_add64 rfl rfl rfl (carry1 _ _ _ (carry1 _ _ _ (carry1 _ _ _ (by decide))))) rfl ?_
  refine d_y (i := 9) (k' := 1023) rfl (by kernel_rfl) (y_move rfl) rfl ?_
  refine d_y (i := 10) (k' := 2047) rfl (by kernel_rfl) (y_extract rfl rfl) rfl ?_
  refine d_y (i := 11) (k' := 4095) rfl (by kernel_rfl) (y_extract rfl rfl) rfl ?_
  refine d_y (i := 12) (k' := 8191) rfl (by kernel_rfl) (y_indexAddrA Tryz.runUnderlying51 Tryz.sizeOf49 rfl rfl (by decide)) rfl ?_
  refine d_e (i := 13) (k' := 16383) rfl (by kernel_rfl) (st1 (h1 := rfl) Tryz.sizeOf49 rfl rfl (by rfl) (by rfl) ( d_past rfl ?_))
  refine d_y (i := 14) (k' := 32767) rfl (by kernel_rfl) (y_assign rfl) rfl ?_
  refine d_end (by kernel_rfl) ?_
  refine c_region ?_
  refine seqq (o_y (y_binZ (v := .int .i64 4) rfl rfl (fun _ => by rfl)) rfl ?_)
  refine seqq (o_y (y_move rfl) rfl ?_)
  refine c_nil ?_
  refine c_round ?_
  refine c_seq ?_
  refine c_region ?_
  refine seqq (o_y (y_binZ (v := .bool false) rfl rfl (fun _ => by rfl)) rfl ?_)
  refine c_nil ?_
  refine c_seq ?_
  refine c_condF rfl ?_
  refine c_exit ?_
  refine c_seq ?_
  refine c_region ?_
  refine seqq (o_y (lN Tryz.isAgg51 Tryz.sizeOf51 rfl (by rfl)) rfl ?_)
  refine seqq (o_y (y_move rfl) rfl ?_)
  refine seqq (o_y (y_eqlB (Y := 1#64) rfl rfl) rfl ?_)
  refine seqq (stN Tryz.sizeOf51 rfl rfl (by rfl) rfl (by rfl) ?_)
  refine seqq (o_y (y_assign rfl) rfl ?_)
  refine c_nil ?_
  refine c_ret ?_
  refine c_done2 Tryz.results43 (rN Tryz.isAgg51 Tryz.sizeOf51 rfl (by rfl)) (.tmp rfl) (fun w hS => ?_)
  exact ⟨rfl, hS.none⟩

theorem wide_Sub0 (a b c d a' b' c' d' : BitVec 64) : Pure Tryz.prog 119 [vagg (wide a b c d), vagg (wide a' b' c' d')]
    (.tuple #[vagg (wide (wsub a b c d a' b' c' d').1.1 (wsub a b c d a' b' c' d').1.2.1 (wsub a b c d a' b' c' d').1.2.2.1 (wsub a b c d a' b' c' d').1.2.2.2), .bool (decide ((wsub a b c d a' b' c' d').2 = 1#64))]) := by
  intro w
  refine begin0 Tryz.func119 rfl Tryz.ntmps119 rfl ?_
  refine c_seq ?_
  refine c_region ?_
  refine seqq (o_box (T := 51) rfl (IsP.agg).cells rfl (fun b2 => ?_))
  refine seqq (o_box (T := 51) rfl (IsP.agg).cells rfl (fun b3 => ?_))
  refine seqq (o_alloc (ps := [P1 (bv .u64 0#64), P1 (bv .u64 0#64), P1 (bv .u64 0#64), P1 (bv .u64 0#64)]) Tryz.zeroValue51 (by kernel_rfl) rfl (fun b4 => ?_))
  refine seqq (o_y (y_assign rfl) rfl ?_)
  refine c_nil ?_
  refine c_seq ?_
  refine c_region ?_
  refine seqq (o_alloc (ps := [P1 (bv .u64 0#64), P1 (bv .u64 0#64), P1 (bv .u64 0#64), P1 (bv .u64 0#64)]) Tryz.zeroValue51 (by kernel_rfl) rfl (fun b6 => ?_))
  refine c_nil ?_
  refine c_seq ?_
  refine c_region ?_
  refine seqq (o_y (y_assign (v := bv .u64 0#64) rfl) rfl ?_)
  refine c_nil ?_
  refine c_seq ?_
  refine c_seq ?_
  refine c_region ?_
  refine seqq (o_y (y_move rfl) rfl ?_)
  refine c_nil ?_
  refine c_block ?_
  refine c_loop 5 ?_
  refine c_round ?_
  refine c_seq ?_
  refine c_region ?_
  refine seqq (o_y (y_binZ (v := .bool true) rfl rfl (fun _ => by rfl)) rfl ?_)
  refine c_nil ?_
  refine c_seq ?_
  refine c_condT rfl ?_
  refine c_skip ?_
  refine c_seq ?_
  refine c_block ?_
  refine c_seq ?_
  refine c_region ?_
  refine seqq (o_y (y_move rfl) rfl ?_)
  refine seqq (o_y (y_assign rfl) rfl ?_)
  refine c_nil ?_
  refine d_reg 13 mixed rfl ?_
  refine d_y (i := 0) (k' := 1) rfl (by kernel_rfl) (y_move rfl) rfl ?_
  refine d_y (i := 1) (k' := 3) rfl (by kernel_rfl) (y_move rfl) rfl ?_
  refine d_y (i := 2) (k' := 7) rfl (by kernel_rfl) (y_indexAddrA Tryz.runUnderlying51 Tryz.sizeOf49 rfl rfl (by decide)) rfl ?_
  refine d_s (i := 3) (k' := 15) rfl (by kernel_rfl) (by kernel_rfl) (l1 Tryz.isAgg49 rfl (by rfl)) hss rfl ?_
  refine d_y (i := 4) (k' := 31) rfl (by kernel_rfl) (y_move rfl) rfl ?_
  refine d_y (i := 5) (k' := 63) rfl (by kernel_rfl) (y_indexAddrA Tryz.runUnderlying51 Tryz.sizeOf49 rfl rfl (by decide)) rfl ?_
  refine d_s (i := 6) (k' := 127) rfl (by kernel_rfl) (by kernel_rfl) (l1 Tryz.isAgg49 rfl (by rfl)) hss rfl ?_
  refine d_y (i := 7) (k' := 255) rfl (by kernel_rfl) (y_move rfl) rfl ?_
  refine d_y (i := 8) (k' := 511) rfl (by kernel_rfl) (y_sub64 f_sub64 rfl rfl rfl (by decide)) rfl ?_
  refine d_y (i := 9) (k' := 1023) rfl (by kernel_rfl) (y_move rfl) rfl ?_
  refine d_y (i := 10) (k' := 2047) rfl (by kernel_rfl) (y_extract rfl rfl) rfl ?_
  refine d_y (i := 11) (k' := 4095) rfl (by kernel_rfl) (y_extract rfl rfl) rfl ?_
  refine d_y (i := 12) (k' := 8191) rfl (by kernel_rfl) (y_indexAddrA Tryz.runUnderlying51 Tryz.sizeOf49 rfl rfl (by decide)) rfl ?_
  refine d_e (i := 13) (k' := 16383) rfl (by kernel_rfl) (st1 (h1 := rfl) Tryz.sizeOf49 rfl rfl (by rfl) (by rfl) ( d_past rfl ?_))
  refine d_y (i := 14) (k' := 32767) rfl (by kernel_rfl) (y_assign rfl) rfl ?_
  refine d_end (by kernel_rfl) ?_
  refine c_region ?_
  refine seqq (o_y (y_binZ (v := .int .i64 1) rfl rfl (fun _ => by rfl)) rfl ?_)
  refine seqq (o_y (y_move rfl) rfl ?_)
  refine c_nil ?_
  refine c_round ?_
  refine c_seq ?_
  refine c_region ?_
  refine seqq (o_y (y_binZ (v := .bool true) rfl rfl (fun _ => by rfl)) rfl ?_)
  refine c_nil ?_
  refine c_seq ?_
  refine c_condT rfl ?_
  refine c_skip ?_
  refine c_seq ?_
  refine c_block ?_
  refine c_seq ?_
  refine c_region ?_
  refine seqq (o_y (y_move rfl) rfl ?_)
  refine seqq (o_y (y_assign rfl) rfl ?_)
  refine c_nil ?_
  refine d_reg 13 mixed rfl ?_
  refine d_y (i := 0) (k' := 1) rfl (by kernel_rfl) (y_move rfl) rfl ?_
  refine d_y (i := 1) (k' := 3) rfl (by kernel_rfl) (y_move rfl) rfl ?_
  refine d_y (i := 2) (k' := 7) rfl (by kernel_rfl) (y_indexAddrA Tryz.runUnderlying51 Tryz.sizeOf49 rfl rfl (by decide)) rfl ?_
  refine d_s (i := 3) (k' := 15) rfl (by kernel_rfl) (by kernel_rfl) (l1 Tryz.isAgg49 rfl (by rfl)) hss rfl ?_
  refine d_y (i := 4) (k' := 31) rfl (by kernel_rfl) (y_move rfl) rfl ?_
  refine d_y (i := 5) (k' := 63) rfl (by kernel_rfl) (y_indexAddrA Tryz.runUnderlying51 Tryz.sizeOf49 rfl rfl (by decide)) rfl ?_
  refine d_s (i := 6) (k' := 127) rfl (by kernel_rfl) (by kernel_rfl) (l1 Tryz.isAgg49 rfl (by rfl)) hss rfl ?_
  refine d_y (i := 7) (k' := 255) rfl (by kernel_rfl) (y_move rfl) rfl ?_
  refine d_y (i := 8) (k' := 511) rfl (by kernel_rfl) (y_sub64 f_sub64 rfl rfl rfl (borrow1 _)) rfl ?_
  refine d_y (i := 9) (k' := 1023) rfl (by kernel_rfl) (y_move rfl) rfl ?_
  refine d_y (i := 10) (k' := 2047) rfl (by kernel_rfl) (y_extract rfl rfl) rfl ?_
  refine d_y (i := 11) (k' := 4095) rfl (by kernel_rfl) (y_extract rfl rfl) rfl ?_
  refine d_y (i := 12) (k' := 8191) rfl (by kernel_rfl) (y_indexAddrA Tryz.runUnderlying51 Tryz.sizeOf49 rfl rfl (by decide)) rfl ?_
  refine d_e (i := 13) (k' := 16383) rfl (by kernel_rfl) (st1 (h1 := rfl) Tryz.sizeOf49 rfl rfl (by rfl) (by rfl) ( d_past rfl ?_))
  refine d_y (i := 14) (k' := 32767) rfl (by kernel_rfl) (y_assign rfl) rfl ?_
  refine d_end (by kernel_rfl) ?_
  refine c_region ?_
  refine seqq (o_y (y_binZ (v := .int .i64 2) rfl rfl (fun _ => by rfl)) rfl ?_)
  refine seqq (o_y (y_move rfl) rfl ?_)
  refine c_nil ?_
  refine c_round ?_
  refine c_seq ?_
  refine c_region ?_
  refine seqq (o_y (y_binZ (v := .bool true) rfl rfl (fun _ => by rfl)) rfl ?_)
  refine c_nil ?_
  refine c_seq ?_
  refine c_condT rfl ?_
  refine c_skip ?_
  refine c_seq ?_
  refine c_block ?_
  refine c_seq ?_
  refine c_region ?_
  refine seqq (o_y (y_move rfl) rfl ?_)
  refine seqq (o_y (y_assign rfl) rfl ?_)
  refine c_nil ?_
  refine d_reg 13 mixed rfl ?_
  refine d_y (i := 0) (k' := 1) rfl (by kernel_rfl) (y_move rfl) rfl ?_
  refine d_y (i := 1) (k' := 3) rfl (by kernel_rfl) (y_move rfl) rfl ?_
  refine d_y (i := 2) (k' := 7) rfl (by kernel_rfl) (y_indexAddrA Tryz.runUnderlying51 Tryz.sizeOf49 rfl rfl (by decide)) rfl ?_
  refine d_s (i := 3) (k' := 15) rfl (by kernel_rfl) (by kernel_rfl) (l1 Tryz.isAgg49 rfl (by rfl)) hss rfl ?_
  refine d_y (i := 4) (k' := 31) rfl (by kernel_rfl) (y_move rfl) rfl ?_
  refine d_y (i := 5) (k' := 63) rfl (by kernel_rfl) (y_indexAddrA Tryz.runUnderlying51 Tryz.sizeOf49 rfl rfl (by decide)) rfl ?_
  refine d_s (i := 6) (k' := 127) rfl (by kernel_rfl) (by kernel_rfl) (l1 Tryz.isAgg49 rfl (by rfl)) hss rfl ?_
  refine d_y (i := 7) (k' := 255) rfl (by kernel_rfl) (y_move rfl) rfl ?_
  refine d_y (i := 8) (k' := 511) rfl (by kernel_rfl) (y_sub64 f_sub64 rfl rfl rfl (borrow1 _)) rfl ?_
  refine d_y (i := 9) (k' := 1023) rfl (by kernel_rfl) (y_move rfl) rfl ?_
  refine d_y (i := 10) (k' := 2047) rfl (by kernel_rfl) (y_extract rfl rfl) rfl ?_
  refine d_y (i := 11) (k' := 4095) rfl (by kernel_rfl) (y_extract rfl rfl) rfl ?_
  refine d_y (i := 12) (k' := 8191) rfl (by kernel_rfl) (y_indexAddrA Tryz.runUnderlying51 Tryz.sizeOf49 rfl rfl (by decide)) rfl ?_
  refine d_e (i := 13) (k' := 16383) rfl (by kernel_rfl) (st1 (h1 := rfl) Tryz.sizeOf49 rfl rfl (by rfl) (by rfl) ( d_past rfl ?_))
  refine d_y (i := 14) (k' := 32767) rfl (by kernel_rfl) (y_assign rfl) rfl ?_
  refine d_end (by kernel_rfl) ?_
  refine c_region ?_
  refine seqq (o_y (y_binZ (v := .int .i64 3) rfl rfl (fun _ => by rfl)) rfl ?_)
  refine seqq (o_y (y_move rfl) rfl ?_)
  refine c_nil ?_
  refine c_round ?_
  refine c_seq ?_
  refine c_region ?_
  refine seqq (o_y (y_binZ (v := .bool true) rfl rfl (fun _ => by rfl)) rfl ?_)
  refine c_nil ?_
  refine c_seq ?_
  refine c_condT rfl ?_
  refine c_skip ?_
  refine c_seq ?_
  refine c_block ?_
  refine c_seq ?_
  refine c_region ?_
  refine seqq (o_y (y_move rfl) rfl ?_)
  refine seqq (o_y (y_assign rfl) rfl ?_)
  refine c_nil ?_
  refine d_reg 13 mixed rfl ?_
  refine d_y (i := 0) (k' := 1) rfl (by kernel_rfl) (y_move rfl) rfl ?_
  refine d_y (i := 1) (k' := 3) rfl (by kernel_rfl) (y_move rfl) rfl ?_
  refine d_y (i := 2) (k' := 7) rfl (by kernel_rfl) (y_indexAddrA Tryz.runUnderlying51 Tryz.sizeOf49 rfl rfl (by decide)) rfl ?_
  refine d_s (i := 3) (k' := 15) rfl (by kernel_rfl) (by kernel_rfl) (l1 Tryz.isAgg49 rfl (by rfl)) hss rfl ?_
  refine d_y (i := 4) (k' := 31) rfl (by kernel_rfl) (y_move rfl) rfl ?_
  refine d_y (i := 5) (k' := 63) rfl (by kernel_rfl) (y_indexAddrA Tryz.runUnderlying51 Tryz.sizeOf49 rfl rfl (by decide)) rfl ?_
  refine d_s (i := 6) (k' := 127) rfl (by kernel_rfl) (by kernel_rfl) (l1 Tryz.isAgg49 rfl (by rfl)) hss rfl ?_
  refine d_y (i := 7) (k' := 255) rfl (by kernel_rfl) (y_move rfl) rfl ?_
  refine d_y (i := 8) (k' := 511) rfl (by kernel_rfl) (y_sub64 f_sub64 rfl rfl rfl (borrow1 _)) rfl ?_
  refine d_y (i := 9) (k' := 1023) rfl (by kernel_rfl) (y_move rfl) rfl ?_
  refine d_y (i := 10) (k' := 2047) rfl (by kernel_rfl) (y_extract rfl rfl) rfl ?_
  refine d_y (i := 11) (k' := 4095) rfl (by kernel_rfl) (y_extract rfl rfl) rfl ?_
  refine d_y (i := 12) (k' := 8191) rfl (by kernel_rfl) (y_indexAddrA Tryz.runUnderlying51 Tryz.sizeOf49 rfl rfl (by decide)) rfl ?_
  refine d_e (i := 13) (k' := 16383) rfl (by kernel_rfl) (st1 (h1 := rfl) Tryz.sizeOf49 rfl rfl (by rfl) (by rfl) ( d_past rfl ?_))
  refine d_y (i := 14) (k' := 32767) rfl (by kernel_rfl) (y_assign rfl) rfl ?_
  refine d_end (by kernel_rfl) ?_
  refine c_region ?_
  refine seqq (o_y (y_binZ (v := .int .i64 4) rfl rfl (fun _ => by rfl)) rfl ?_)
  refine seqq (o_y (y_move rfl) rfl ?_)
  refine c_nil ?_
  refine c_round ?_
  refine c_seq ?_
  refine c_region ?_
  refine seqq (o_y (y_binZ (v := .bool false) rfl rfl (fun _ => by rfl)) rfl ?_)
  refine c_nil ?_
  refine c_seq ?_
  refine c_condF rfl ?_
  refine c_exit ?_
  refine c_seq ?_
  refine c_region ?_
  refine seqq (o_y (lN Tryz.isAgg51 Tryz.sizeOf51 rfl (by rfl)) rfl ?_)
  refine seqq (o_y (y_move rfl) rfl ?_)
  refine seqq (o_y (y_eqlB (Y := 1#64) rfl rfl) rfl ?_)
  refine seqq (stN Tryz.sizeOf51 rfl rfl (by rfl) rfl (by rfl) ?_)
  refine seqq (o_y (y_assign rfl) rfl ?_)
  refine c_nil ?_
  refine c_ret ?_
  refine c_done2 Tryz.results119 (rN Tryz.isAgg51 Tryz.sizeOf51 rfl (by rfl)) (.tmp rfl) (fun w hS => ?_)
  exact ⟨rfl, hS.none⟩

theorem wide_Bits0 (a b c d : BitVec 64) : Pure Tryz.prog 88 [vagg (wide a b c d)] (vI (wbits a b c d : Int)) := by
  intro w
  have h1 := bl a
  have h2 := bl b
  have h3 := bl c
  have h4 := bl d
  refine begin0 Tryz.func88 rfl Tryz.ntmps88 rfl ?_
  refine c_seq ?_
  refine c_region ?_
  refine seqq (o_box (T := 51) rfl (IsP.agg).cells rfl (fun b1 => ?_))
  refine seqq (o_y (y_assign rfl) rfl ?_)
  refine c_nil ?_
  refine c_seq ?_
  refine c_seq ?_
  refine c_region ?_
  refine seqq (o_y (y_assign rfl) rfl ?_)
  refine c_nil ?_
  refine c_block ?_
  refine c_loop 5 ?_
  refine c_round ?_
  refine c_seq ?_
  refine c_seq ?_
  refine c_region ?_
  refine seqq (o_y (y_move rfl) rfl ?_)
  refine seqq (o_y (y_binZ (v := .bool true) rfl rfl (fun _ => by rfl)) rfl ?_)
  refine c_nil ?_
  refine c_condT rfl ?_
  refine c_skip ?_
  refine c_seq ?_
  refine c_block ?_
  refine c_seq ?_
  refine c_region ?_
  refine seqq (o_y (y_move rfl) rfl ?_)
  refine seqq (o_y (y_indexAddrA Tryz.runUnderlying51 Tryz.sizeOf49 rfl rfl (by decide)) rfl ?_)
  refine seqq (o_y (l1 Tryz.isAgg49 rfl (by rfl)) rfl ?_)
  refine seqq (o_y (y_gtrB (Y := 0#64) rfl rfl) rfl ?_)
  refine c_nil ?_
  refine c_if rfl (fun h11 => ?_) (fun h11 => ?_)
  ·
    refine c_seq ?_
    refine c_region ?_
    refine seqq (o_y (y_move rfl) rfl ?_)
    refine seqq (o_y (y_binZ (v := .int .i64 192) rfl rfl (fun _ => by rfl)) rfl ?_)
    refine seqq (o_y (y_move rfl) rfl ?_)
    refine seqq (o_y (y_indexAddrA Tryz.runUnderlying51 Tryz.sizeOf49 rfl rfl (by decide)) rfl ?_)
    refine seqq (o_y (l1 Tryz.isAgg49 rfl (by rfl)) rfl ?_)
    refine seqq (o_pure Tryz.call112 rfl (bits_Len64 _) rfl ?_)
    refine seqq (o_y (y_addI rfl rfl (by omega)) rfl ?_)
    refine seqq (o_y (y_assign rfl) rfl ?_)
    refine c_nil ?_
    refine c_ret ?_
    refine c_done1 Tryz.results88 (.tmp rfl) (fun w hS => ?_)
    have z : (0#64).toNat = 0 := rfl
    simp only [z] at *
    exact ⟨by (simp only [wbits, *, if_true, if_false, Int.natCast_add, Int.zero_add]) <;> rfl, hS.none⟩
  ·
    refine c_skip ?_
    refine c_region ?_
    refine seqq (o_y (y_move rfl) rfl ?_)
    refine seqq (o_y (y_binZ (v := .int .i64 2) rfl rfl (fun _ => by rfl)) rfl ?_)
    refine seqq (o_y (y_assign rfl) rfl ?_)
    refine c_nil ?_
    refine c_round ?_
    refine c_seq ?_
    refine c_seq ?_
    refine c_region ?_
    refine seqq (o_y (y_move rfl) rfl ?_)
    refine seqq (o_y (y_binZ (v := .bool true) rfl rfl (fun _ => by rfl)) rfl ?_)
    refine c_nil ?_
    refine c_condT rfl ?_
    refine c_skip ?_
    refine c_seq ?_
    refine c_block ?_
    refine c_seq ?_
    refine c_region ?_
    refine seqq (o_y (y_move rfl) rfl ?_)
    refine seqq (o_y (y_indexAddrA Tryz.runUnderlying51 Tryz.sizeOf49 rfl rfl (by decide)) rfl ?_)
    refine seqq (o_y (l1 Tryz.isAgg49 rfl (by rfl)) rfl ?_)
    refine seqq (o_y (y_gtrB (Y := 0#64) rfl rfl) rfl ?_)
    refine c_nil ?_
    refine c_if rfl (fun h11 => ?_) (fun h11 => ?_)
    ·
      refine c_seq ?_
      refine c_region ?_
      refine seqq (o_y (y_move rfl) rfl ?_)
      refine seqq (o_y (y_binZ (v := .int .i64 128) rfl rfl (fun _ => by rfl)) rfl ?_)
      refine seqq (o_y (y_move rfl) rfl ?_)
      refine seqq (o_y (y_indexAddrA Tryz.runUnderlying51 Tryz.sizeOf49 rfl rfl (by decide)) rfl ?_)
      refine seqq (o_y (l1 Tryz.isAgg49 rfl (by rfl)) rfl ?_)
      refine seqq (o_pure Tryz.call112 rfl (bits_Len64 _) rfl ?_)
      refine seqq (o_y (y_addI rfl rfl (by omega)) rfl ?_)
      refine seqq (o_y (y_assign rfl) rfl ?_)
      refine c_nil ?_
      refine c_ret ?_
      refine c_done1 Tryz.results88 (.tmp rfl) (fun w hS => ?_)
      have z : (0#64).toNat = 0 := rfl
      simp only [z] at *
      exact ⟨by (simp only [wbits, *, if_true, if_false, Int.natCast_add, Int.zero_add]) <;> rfl, hS.none⟩
    ·
      refine c_skip ?_
      refine c_region ?_
      refine seqq (o_y (y_move rfl) rfl ?_)
      refine seqq (o_y (y_binZ (v := .int .i64 1) rfl rfl (fun _ => by rfl)) rfl ?_)
      refine seqq (o_y (y_assign rfl) rfl ?_)
      refine c_nil ?_
      refine c_round ?_
      refine c_seq ?_
      refine c_seq ?_
      refine c_region ?_
      refine seqq (o_y (y_move rfl) rfl ?_)
      refine seqq (o_y (y_binZ (v := .bool true) rfl rfl (fun _ => by rfl)) rfl ?_)
      refine c_nil ?_
      refine c_condT rfl ?_
      refine c_skip ?_
      refine c_seq ?_
      refine c_block ?_
      refine c_seq ?_
      refine c_region ?_
      refine seqq (o_y (y_move rfl) rfl ?_)
      refine seqq (o_y (y_indexAddrA Tryz.runUnderlying51 Tryz.sizeOf49 rfl rfl (by decide)) rfl ?_)
      refine seqq (o_y (l1 Tryz.isAgg49 rfl (by rfl)) rfl ?_)
      refine seqq (o_y (y_gtrB (Y := 0#64) rfl rfl) rfl ?_)
      refine c_nil ?_
      refine c_if rfl (fun h11 => ?_) (fun h11 => ?_)
      ·
        refine c_seq ?_
        refine c_region ?_
        refine seqq (o_y (y_move rfl) rfl ?_)
        refine seqq (o_y (y_binZ (v := .int .i64 64) rfl rfl (fun _ => by rfl)) rfl ?_)
        refine seqq (o_y (y_move rfl) rfl ?_)
        refine seqq (o_y (y_indexAddrA Tryz.runUnderlying51 Tryz.sizeOf49 rfl rfl (by decide)) rfl ?_)
        refine seqq (o_y (l1 Tryz.isAgg49 rfl (by rfl)) rfl ?_)
        refine seqq (o_pure Tryz.call112 rfl (bits_Len64 _) rfl ?_)
        refine seqq (o_y (y_addI rfl rfl (by omega)) rfl ?_)
        refine seqq (o_y (y_assign rfl) rfl ?_)
        refine c_nil ?_
        refine c_ret ?_
        refine c_done1 Tryz.results88 (.tmp rfl) (fun w hS => ?_)
        have z : (0#64).toNat = 0 := rfl
        simp only [z] at *
        exact ⟨by (simp only [wbits, *, if_true, if_false, Int.natCast_add, Int.zero_add]) <;> rfl, hS.none⟩
      ·
        refine c_skip ?_
        refine c_region ?_
        refine seqq (o_y (y_move rfl) rfl ?_)
        refine seqq (o_y (y_binZ (v := .int .i64 0) rfl rfl (fun _ => by rfl)) rfl ?_)
        refine seqq (o_y (y_assign rfl) rfl ?_)
        refine c_nil ?_
        refine c_round ?_
        refine c_seq ?_
        refine c_seq ?_
        refine c_region ?_
        refine seqq (o_y (y_move rfl) rfl ?_)
        refine seqq (o_y (y_binZ (v := .bool true) rfl rfl (fun _ => by rfl)) rfl ?_)
        refine c_nil ?_
        refine c_condT rfl ?_
        refine c_skip ?_
        refine c_seq ?_
        refine c_block ?_
        refine c_seq ?_
        refine c_region ?_
        refine seqq (o_y (y_move rfl) rfl ?_)
        refine seqq (o_y (y_indexAddrA Tryz.runUnderlying51 Tryz.sizeOf49 rfl rfl (by decide)) rfl ?_)
        refine seqq (o_y (l1 Tryz.isAgg49 rfl (by rfl)) rfl ?_)
        refine seqq (o_y (y_gtrB (Y := 0#64) rfl rfl) rfl ?_)
        refine c_nil ?_
        refine c_if rfl (fun h11 => ?_) (fun h11 => ?_)
        ·
          refine c_seq ?_
          refine c_region ?_
          refine seqq (o_y (y_move rfl) rfl ?_)
          refine seqq (o_y (y_binZ (v := .int .i64 0) rfl rfl (fun _ => by rfl)) rfl ?_)
          refine seqq (o_y (y_move rfl) rfl ?_)
          refine seqq (o_y (y_indexAddrA Tryz.runUnderlying51 Tryz.sizeOf49 rfl rfl (by decide)) rfl ?_)
          refine seqq (o_y (l1 Tryz.isAgg49 rfl (by rfl)) rfl ?_)
          refine seqq (o_pure Tryz.call112 rfl (bits_Len64 _) rfl ?_)
          refine seqq (o_y (y_addI rfl rfl (by omega)) rfl ?_)
          refine seqq (o_y (y_assign rfl) rfl ?_)
          refine c_nil ?_
          refine c_ret ?_
          refine c_done1 Tryz.results88 (.tmp rfl) (fun w hS => ?_)
          have z : (0#64).toNat = 0 := rfl
          simp only [z] at *
          exact ⟨by (simp only [wbits, *, if_true, if_false, Int.natCast_add, Int.zero_add]) <;> rfl, hS.none⟩
        ·
          refine c_skip ?_
          refine c_region ?_
          refine seqq (o_y (y_move rfl) rfl ?_)
          refine seqq (o_y (y_binZ (v := .int .i64 (-1)) rfl rfl (fun _ => by rfl)) rfl ?_)
          refine seqq (o_y (y_assign rfl) rfl ?_)
          refine c_nil ?_
          refine c_round ?_
          refine c_seq ?_
          refine c_seq ?_
          refine c_region ?_
          refine seqq (o_y (y_move rfl) rfl ?_)
          refine seqq (o_y (y_binZ (v := .bool false) rfl rfl (fun _ => by rfl)) rfl ?_)
          refine c_nil ?_
          refine c_condF rfl ?_
          refine c_exit ?_
          refine c_seq ?_
          refine c_region ?_
          refine seqq (o_y (y_assign rfl) rfl ?_)
          refine c_nil ?_
          refine c_ret ?_
          refine c_done1 Tryz.results88 (.tmp rfl) (fun w hS => ?_)
          have z : (0#64).toNat = 0 := rfl
          simp only [z] at *
          exact ⟨by (simp only [wbits, *, if_true, if_false, Int.natCast_add, Int.zero_add]) <;> rfl, hS.none⟩

/-! ### as numbers -/
theorem wide_Of (x : BitVec 64) : Pure Tryz.prog 87 [bv .u64 x] (vW x.toNat) :=
  (wide_Of0 x).to (vW_eq (by simp [wn]))
theorem wide_Cmp (n m : Nat) (hn : n < M256) (hm : m < M256) : Pure Tryz.prog 17 [vW n, vW m] (vI (if n < m then -1 else if m < n then 1 else 0)) :=
  (wide_Cmp0 _ _ _ _ _ _ _ _).to (by unfold wcmp; rw [wcmp_eq n m hn hm])
theorem wide_Not (n : Nat) (hn : n < M256) : Pure Tryz.prog 40 [vW n] (vW (M256 - 1 - n)) :=
  (wide_Not0 _ _ _ _).to (vW_eq (by simp only [wn, BitVec.toNat_not, nw_toNat, M256] at *; omega))
theorem wide_Add (n m : Nat) (hn : n < M256) (hm : m < M256) : Pure Tryz.prog 43 [vW n, vW m] (.tuple #[vW ((n + m) % M256), .bool (decide (M256 ≤ n + m))]) := by
  refine (wide_Add0 _ _ _ _ _ _ _ _).to ?_
  obtain ⟨h1, h2⟩ := wadd_eq (nw n 0) (nw n 1) (nw n 2) (nw n 3) (nw m 0) (nw m 1) (nw m 2) (nw m 3)
  rw [wn_nw hn, wn_nw hm] at h1 h2
  rw [vW_eq h1, decide_eq_decide.2 h2]
theorem wide_Sub (n m : Nat) (hn : n < M256) (hm : m < M256) : Pure Tryz.prog 119 [vW n, vW m] (.tuple #[vW ((n + M256 - m) % M256), .bool (decide (n < m))]) := by
  refine (wide_Sub0 _ _ _ _ _ _ _ _).to ?_
  obtain ⟨h1, h2⟩ := wsub_eq (nw n 0) (nw n 1) (nw n 2) (nw n 3) (nw m 0) (nw m 1) (nw m 2) (nw m 3)
  rw [wn_nw hn, wn_nw hm] at h1 h2
  rw [vW_eq h1, decide_eq_decide.2 h2]
theorem wide_Bits (n : Nat) (hn : n < M256) : Pure Tryz.prog 88 [vW n] (vI (nbits n : Int)) :=
  (wide_Bits0 _ _ _ _).to (by rw [wbits_eq hn])

theorem wide_Uint (n : Nat) (hn : n < M256) : Pure Tryz.prog 134 [vW n] (if (nbits n : Int) > 64 then .tuple #[bv .u64 0#64, .bool false] else .tuple #[bv .u64 (nw n 0), .bool true]) := by
  intro w
  refine begin0 Tryz.func134 rfl Tryz.ntmps134 rfl ?_
  refine c_seq ?_
  refine c_region ?_
  refine seqq (o_box (T := 51) rfl (IsP.agg).cells rfl (fun b1 => ?_))
  refine seqq (o_y (y_assign (v := bv .u64 0#64) rfl) rfl ?_)
  refine seqq (o_y (y_assign rfl) rfl ?_)
  refine c_nil ?_
  refine c_seq ?_
  refine c_seq ?_
  refine c_region ?_
  refine seqq (o_y (lN Tryz.isAgg51 Tryz.sizeOf51 rfl (by rfl)) rfl ?_)
  refine seqq (o_pure Tryz.call88 rfl (wide_Bits n hn) rfl ?_)
  refine seqq (o_y (y_gtrZ rfl rfl) rfl ?_)
  refine c_nil ?_
  refine c_if rfl (fun h6 => ?_) (fun h6 => ?_)
  ·
    refine c_seq ?_
    refine c_region ?_
    refine seqq (o_y (y_assign (v := bv .u64 0#64) rfl) rfl ?_)
    refine seqq (o_y (y_assign rfl) rfl ?_)
    refine c_nil ?_
    refine c_ret ?_
    refine c_done2 Tryz.results134 (.tmp rfl) (.tmp rfl) (fun w hS => ?_)
    exact ⟨by simp only [*, if_true, if_false, gt_iff_lt], hS.none⟩
  ·
    refine c_skip ?_
    refine c_seq ?_
    refine c_region ?_
    refine seqq (o_y (y_indexAddrA Tryz.runUnderlying51 Tryz.sizeOf49 rfl rfl (by decide)) rfl ?_)
    refine seqq (o_y (l1 Tryz.isAgg49 rfl (by rfl)) rfl ?_)
    refine seqq (o_y (y_assign rfl) rfl ?_)
    refine seqq (o_y (y_assign rfl) rfl ?_)
    refine c_nil ?_
    refine c_ret ?_
    refine c_done2 Tryz.results134 (.tmp rfl) (.tmp rfl) (fun w hS => ?_)
    exact ⟨by simp only [*, if_true, if_false, gt_iff_lt], hS.none⟩

theorem wide_Right_0_0 (a b c d : BitVec 64) (r : Nat) (hr : r < 64) (h0 : ¬ 0 < r) : Pure Tryz.prog 113 [vagg (wide a b c d), vI ((0 + r : Nat) : Int)] (vagg (wide (a >>> r) (b >>> r) (c >>> r) (d >>> r))) := by
  intro w
  refine begin0 Tryz.func113 rfl Tryz.ntmps113 rfl ?_
  refine c_seq ?_
  refine c_region ?_
  refine seqq (o_box (T := 51) rfl (IsP.agg).cells rfl (fun b2 => ?_))
  refine seqq (o_alloc (ps := [P1 (bv .u64 0#64), P1 (bv .u64 0#64), P1 (bv .u64 0#64), P1 (bv .u64 0#64)]) Tryz.zeroValue51 (by kernel_rfl) rfl (fun b4 => ?_))
  refine c_nil ?_
  refine c_seq ?_
  refine c_block ?_
  refine c_seq ?_
  refine c_region ?_
  refine seqq (o_y (y_move rfl) rfl ?_)
  refine seqq (o_y (y_leqZ rfl rfl) rfl ?_)
  refine j_re 11 rfl (decF (by omega)) ?_
  refine seqq (o_y (y_move rfl) rfl ?_)
  refine seqq (guard_true rfl rfl (o_y (y_move rfl) rfl ?_))
  refine seqq (guard_true rfl rfl (o_y (y_geqZ rfl rfl) rfl ?_))
  refine j_re 14 rfl (decF (by omega)) ?_
  refine seqq (o_y (y_pick_f rfl rfl) rfl ?_)
  refine seqq (o_y (y_assign rfl) rfl ?_)
  refine c_nil ?_
  refine c_condF rfl ?_
  refine c_seq ?_
  refine c_region ?_
  refine seqq (o_y (y_move rfl) rfl ?_)
  refine seqq (o_y (y_lssZ rfl rfl) rfl ?_)
  refine j_re 19 rfl (decF (by omega)) ?_
  refine seqq (o_y (y_assign rfl) rfl ?_)
  refine c_nil ?_
  refine c_condF rfl ?_
  refine c_skip ?_
  refine c_seq ?_
  refine c_region ?_
  refine seqq (o_alloc (ps := [P1 (bv .u64 0#64), P1 (bv .u64 0#64), P1 (bv .u64 0#64), P1 (bv .u64 0#64)]) Tryz.zeroValue51 (by kernel_rfl) rfl (fun b5 => ?_))
  refine c_nil ?_
  refine c_seq ?_
  refine c_region ?_
  refine seqq (o_y (y_move rfl) rfl ?_)
  refine seqq (o_y (y_quoI rfl rfl (by omega)) rfl ?_)
  refine j_re 25 rfl (show vI (((0 + r : Nat) : Int) / 64) = vI 0 from by congr 1; omega) ?_
  refine seqq (o_y (y_move rfl) rfl ?_)
  refine seqq (o_y (y_remI rfl rfl (by omega)) rfl ?_)
  refine j_re 27 rfl (show vI (((0 + r : Nat) : Int) % 64) = vI ((r : Nat) : Int) from by congr 1; omega) ?_
  refine seqq (o_y (y_assign rfl) rfl ?_)
  refine seqq (o_y (y_assign rfl) rfl ?_)
  refine c_nil ?_
  refine c_seq ?_
  refine c_seq ?_
  refine c_region ?_
  refine seqq (o_y (y_assign rfl) rfl ?_)
  refine c_nil ?_
  refine c_block ?_
  refine c_loop 5 ?_
  refine c_round ?_
  refine c_seq ?_
  refine c_seq ?_
  refine c_region ?_
  refine seqq (o_y (y_move rfl) rfl ?_)
  refine seqq (o_y (y_move rfl) rfl ?_)
  refine seqq (o_y (y_binZ (v := .int .i64 0) rfl rfl (fun _ => by rfl)) rfl ?_)
  refine seqq (o_y (y_binZ (v := .bool true) rfl rfl (fun _ => by rfl)) rfl ?_)
  refine c_nil ?_
  refine c_condT rfl ?_
  refine c_skip ?_
  refine c_seq ?_
  refine c_block ?_
  refine c_seq ?_
  refine c_region ?_
  refine seqq (o_y (y_move rfl) rfl ?_)
  refine seqq (o_y (y_move rfl) rfl ?_)
  refine seqq (o_y (y_move rfl) rfl ?_)
  refine seqq (o_y (y_binZ (v := .int .i64 0) rfl rfl (fun _ => by rfl)) rfl ?_)
  refine seqq (o_y (y_indexAddrA Tryz.runUnderlying51 Tryz.sizeOf49 rfl rfl (by decide)) rfl ?_)
  refine seqq (o_y (l1 Tryz.isAgg49 rfl (by rfl)) rfl ?_)
  refine seqq (o_y (y_move rfl) rfl ?_)
  refine seqq (o_y (y_shrB UK.u64 rfl rfl) rfl ?_)
  refine seqq (o_y (y_indexAddrA Tryz.runUnderlying51 Tryz.sizeOf49 rfl rfl (by decide)) rfl ?_)
  refine seqq (st1 (h1 := rfl) Tryz.sizeOf49 rfl rfl (by rfl) (by rfl) ?_)
  refine c_nil ?_
  refine c_seq ?_
  refine c_region ?_
  refine seqq (o_y (y_move rfl) rfl ?_)
  refine seqq (o_y (y_move rfl) rfl ?_)
  refine seqq (o_y (y_binZ (v := .int .i64 0) rfl rfl (fun _ => by rfl)) rfl ?_)
  refine seqq (o_y (y_binZ (v := .int .i64 1) rfl rfl (fun _ => by rfl)) rfl ?_)
  refine seqq (o_y (y_binZ (v := .bool true) rfl rfl (fun _ => by rfl)) rfl ?_)
  refine seqq (o_y (y_move rfl) rfl ?_)
  refine seqq (guard_true rfl rfl (o_y (y_move rfl) rfl ?_))
  refine seqq (guard_true rfl rfl (o_y (y_gtrZ rfl rfl) rfl ?_))
  refine j_re 50 rfl (decF (by omega)) ?_
  refine seqq (o_y (y_pick_t rfl rfl) rfl ?_)
  refine c_nil ?_
  refine c_condF rfl ?_
  refine c_skip ?_
  refine c_region ?_
  refine seqq (o_y (y_move rfl) rfl ?_)
  refine seqq (o_y (y_binZ (v := .int .i64 1) rfl rfl (fun _ => by rfl)) rfl ?_)
  refine seqq (o_y (y_assign rfl) rfl ?_)
  refine c_nil ?_
  refine c_round ?_
  refine c_seq ?_
  refine c_seq ?_
  refine c_region ?_
  refine seqq (o_y (y_move rfl) rfl ?_)
  refine seqq (o_y (y_move rfl) rfl ?_)
  refine seqq (o_y (y_binZ (v := .int .i64 1) rfl rfl (fun _ => by rfl)) rfl ?_)
  refine seqq (o_y (y_binZ (v := .bool true) rfl rfl (fun _ => by rfl)) rfl ?_)
  refine c_nil ?_
  refine c_condT rfl ?_
  refine c_skip ?_
  refine c_seq ?_
  refine c_block ?_
  refine c_seq ?_
  refine c_region ?_
  refine seqq (o_y (y_move rfl) rfl ?_)
  refine seqq (o_y (y_move rfl) rfl ?_)
  refine seqq (o_y (y_move rfl) rfl ?_)
  refine seqq (o_y (y_binZ (v := .int .i64 1) rfl rfl (fun _ => by rfl)) rfl ?_)
  refine seqq (o_y (y_indexAddrA Tryz.runUnderlying51 Tryz.sizeOf49 rfl rfl (by decide)) rfl ?_)
  refine seqq (o_y (l1 Tryz.isAgg49 rfl (by rfl)) rfl ?_)
  refine seqq (o_y (y_move rfl) rfl ?_)
  refine seqq (o_y (y_shrB UK.u64 rfl rfl) rfl ?_)
  refine seqq (o_y (y_indexAddrA Tryz.runUnderlying51 Tryz.sizeOf49 rfl rfl (by decide)) rfl ?_)
  refine seqq (st1 (h1 := rfl) Tryz.sizeOf49 rfl rfl (by rfl) (by rfl) ?_)
  refine c_nil ?_
  refine c_seq ?_
  refine c_region ?_
  refine seqq (o_y (y_move rfl) rfl ?_)
  refine seqq (o_y (y_move rfl) rfl ?_)
  refine seqq (o_y (y_binZ (v := .int .i64 1) rfl rfl (fun _ => by rfl)) rfl ?_)
  refine seqq (o_y (y_binZ (v := .int .i64 2) rfl rfl (fun _ => by rfl)) rfl ?_)
  refine seqq (o_y (y_binZ (v := .bool true) rfl rfl (fun _ => by rfl)) rfl ?_)
  refine seqq (o_y (y_move rfl) rfl ?_)
  refine seqq (guard_true rfl rfl (o_y (y_move rfl) rfl ?_))
  refine seqq (guard_true rfl rfl (o_y (y_gtrZ rfl rfl) rfl ?_))
  refine j_re 50 rfl (decF (by omega)) ?_
  refine seqq (o_y (y_pick_t rfl rfl) rfl ?_)
  refine c_nil ?_
  refine c_condF rfl ?_
  refine c_skip ?_
  refine c_region ?_
  refine seqq (o_y (y_move rfl) rfl ?_)
  refine seqq (o_y (y_binZ (v := .int .i64 2) rfl rfl (fun _ => by rfl)) rfl ?_)
  refine seqq (o_y (y_assign rfl) rfl ?_)
  refine c_nil ?_
  refine c_round ?_
  refine c_seq ?_
  refine c_seq ?_
  refine c_region ?_
  refine seqq (o_y (y_move rfl) rfl ?_)
  refine seqq (o_y (y_move rfl) rfl ?_)
  refine seqq (o_y (y_binZ (v := .int .i64 2) rfl rfl (fun _ => by rfl)) rfl ?_)
  refine seqq (o_y (y_binZ (v := .bool true) rfl rfl (fun _ => by rfl)) rfl ?_)
  refine c_nil ?_
  refine c_condT rfl ?_
  refine c_skip ?_
  refine c_seq ?_
  refine c_block ?_
  refine c_seq ?_
  refine c_region ?_
  refine seqq (o_y (y_move rfl) rfl ?_)
  refine seqq (o_y (y_move rfl) rfl ?_)
  refine seqq (o_y (y_move rfl) rfl ?_)
  refine seqq (o_y (y_binZ (v := .int .i64 2) rfl rfl (fun _ => by rfl)) rfl ?_)
  refine seqq (o_y (y_indexAddrA Tryz.runUnderlying51 Tryz.sizeOf49 rfl rfl (by decide)) rfl ?_)
  refine seqq (o_y (l1 Tryz.isAgg49 rfl (by rfl)) rfl ?_)
  refine seqq (o_y (y_move rfl) rfl ?_)
  refine seqq (o_y (y_shrB UK.u64 rfl rfl) rfl ?_)
  refine seqq (o_y (y_indexAddrA Tryz.runUnderlying51 Tryz.sizeOf49 rfl rfl (by decide)) rfl ?_)
  refine seqq (st1 (h1 := rfl) Tryz.sizeOf49 rfl rfl (by rfl) (by rfl) ?_)
  refine c_nil ?_
  refine c_seq ?_
  refine c_region ?_
  refine seqq (o_y (y_move rfl) rfl ?_)
  refine seqq (o_y (y_move rfl) rfl ?_)
  refine seqq (o_y (y_binZ (v := .int .i64 2) rfl rfl (fun _ => by rfl)) rfl ?_)
  refine seqq (o_y (y_binZ (v := .int .i64 3) rfl rfl (fun _ => by rfl)) rfl ?_)
  refine seqq (o_y (y_binZ (v := .bool true) rfl rfl (fun _ => by rfl)) rfl ?_)
  refine seqq (o_y (y_move rfl) rfl ?_)
  refine seqq (guard_true rfl rfl (o_y (y_move rfl) rfl ?_))
  refine seqq (guard_true rfl rfl (o_y (y_gtrZ rfl rfl) rfl ?_))
  refine j_re 50 rfl (decF (by omega)) ?_
  refine seqq (o_y (y_pick_t rfl rfl) rfl ?_)
  refine c_nil ?_
  refine c_condF rfl ?_
  refine c_skip ?_
  refine c_region ?_
  refine seqq (o_y (y_move rfl) rfl ?_)
  refine seqq (o_y (y_binZ (v := .int .i64 3) rfl rfl (fun _ => by rfl)) rfl ?_)
  refine seqq (o_y (y_assign rfl) rfl ?_)
  refine c_nil ?_
  refine c_round ?_
  refine c_seq ?_
  refine c_seq ?_
  refine c_region ?_
  refine seqq (o_y (y_move rfl) rfl ?_)
  refine seqq (o_y (y_move rfl) rfl ?_)
  refine seqq (o_y (y_binZ (v := .int .i64 3) rfl rfl (fun _ => by rfl)) rfl ?_)
  refine seqq (o_y (y_binZ (v := .bool true) rfl rfl (fun _ => by rfl)) rfl ?_)
  refine c_nil ?_
  refine c_condT rfl ?_
  refine c_skip ?_
  refine c_seq ?_
  refine c_block ?_
  refine c_seq ?_
  refine c_region ?_
  refine seqq (o_y (y_move rfl) rfl ?_)
  refine seqq (o_y (y_move rfl) rfl ?_)
  refine seqq (o_y (y_move rfl) rfl ?_)
  refine seqq (o_y (y_binZ (v := .int .i64 3) rfl rfl (fun _ => by rfl)) rfl ?_)
  refine seqq (o_y (y_indexAddrA Tryz.runUnderlying51 Tryz.sizeOf49 rfl rfl (by decide)) rfl ?_)
  refine seqq (o_y (l1 Tryz.isAgg49 rfl (by rfl)) rfl ?_)
  refine seqq (o_y (y_move rfl) rfl ?_)
  refine seqq (o_y (y_shrB UK.u64 rfl rfl) rfl ?_)
  refine seqq (o_y (y_indexAddrA Tryz.runUnderlying51 Tryz.sizeOf49 rfl rfl (by decide)) rfl ?_)
  refine seqq (st1 (h1 := rfl) Tryz.sizeOf49 rfl rfl (by rfl) (by rfl) ?_)
  refine c_nil ?_
  refine c_seq ?_
  refine c_region ?_
  refine seqq (o_y (y_move rfl) rfl ?_)
  refine seqq (o_y (y_move rfl) rfl ?_)
  refine seqq (o_y (y_binZ (v := .int .i64 3) rfl rfl (fun _ => by rfl)) rfl ?_)
  refine seqq (o_y (y_binZ (v := .int .i64 4) rfl rfl (fun _ => by rfl)) rfl ?_)
  refine seqq (o_y (y_binZ (v := .bool false) rfl rfl (fun _ => by rfl)) rfl ?_)
  refine seqq (o_y (y_move rfl) rfl ?_)
  refine seqq (guard_false (c := false) rfl rfl rfl rfl ?_)
  refine seqq (guard_false (c := false) rfl rfl rfl rfl ?_)
  refine seqq (o_y (y_pick_f rfl rfl) rfl ?_)
  refine c_nil ?_
  refine c_condF rfl ?_
  refine c_skip ?_
  refine c_region ?_
  refine seqq (o_y (y_move rfl) rfl ?_)
  refine seqq (o_y (y_binZ (v := .int .i64 4) rfl rfl (fun _ => by rfl)) rfl ?_)
  refine seqq (o_y (y_assign rfl) rfl ?_)
  refine c_nil ?_
  refine c_round ?_
  refine c_seq ?_
  refine c_seq ?_
  refine c_region ?_
  refine seqq (o_y (y_move rfl) rfl ?_)
  refine seqq (o_y (y_move rfl) rfl ?_)
  refine seqq (o_y (y_binZ (v := .int .i64 4) rfl rfl (fun _ => by rfl)) rfl ?_)
  refine seqq (o_y (y_binZ (v := .bool false) rfl rfl (fun _ => by rfl)) rfl ?_)
  refine c_nil ?_
  refine c_condF rfl ?_
  refine c_exit ?_
  refine c_seq ?_
  refine c_region ?_
  refine seqq (o_y (lN Tryz.isAgg51 Tryz.sizeOf51 rfl (by rfl)) rfl ?_)
  refine seqq (stN Tryz.sizeOf51 rfl rfl (by rfl) rfl (by rfl) ?_)
  refine c_nil ?_
  refine c_ret ?_
  refine c_done1 Tryz.results113 (rN Tryz.isAgg51 Tryz.sizeOf51 rfl (by rfl)) (fun w hS => ?_)
  exact ⟨rfl, hS.none⟩

theorem wide_Right_0_1 (a b c d : BitVec 64) (r : Nat) (hr : r < 64) (h0 : 0 < r) : Pure Tryz.prog 113 [vagg (wide a b c d), vI ((0 + r : Nat) : Int)] (vagg (wide ((a >>> r) ||| (b <<< (64 - r))) ((b >>> r) ||| (c <<< (64 - r))) ((c >>> r) ||| (d <<< (64 - r))) (d >>> r))) := by
  intro w
  refine begin0 Tryz.func113 rfl Tryz.ntmps113 rfl ?_
  refine c_seq ?_
  refine c_region ?_
  refine seqq (o_box (T := 51) rfl (IsP.agg).cells rfl (fun b2 => ?_))
  refine seqq (o_alloc (ps := [P1 (bv .u64 0#64), P1 (bv .u64 0#64), P1 (bv .u64 0#64), P1 (bv .u64 0#64)]) Tryz.zeroValue51 (by kernel_rfl) rfl (fun b4 => ?_))
  refine c_nil ?_
  refine c_seq ?_
  refine c_block ?_
  refine c_seq ?_
  refine c_region ?_
  refine seqq (o_y (y_move rfl) rfl ?_)
  refine seqq (o_y (y_leqZ rfl rfl) rfl ?_)
  refine j_re 11 rfl (decF (by omega)) ?_
  refine seqq (o_y (y_move rfl) rfl ?_)
  refine seqq (guard_true rfl rfl (o_y (y_move rfl) rfl ?_))
  refine seqq (guard_true rfl rfl (o_y (y_geqZ rfl rfl) rfl ?_))
  refine j_re 14 rfl (decF (by omega)) ?_
  refine seqq (o_y (y_pick_f rfl rfl) rfl ?_)
  refine seqq (o_y (y_assign rfl) rfl ?_)
  refine c_nil ?_
  refine c_condF rfl ?_
  refine c_seq ?_
  refine c_region ?_
  refine seqq (o_y (y_move rfl) rfl ?_)
  refine seqq (o_y (y_lssZ rfl rfl) rfl ?_)
  refine j_re 19 rfl (decF (by omega)) ?_
  refine seqq (o_y (y_assign rfl) rfl ?_)
  refine c_nil ?_
  refine c_condF rfl ?_
  refine c_skip ?_
  refine c_seq ?_
  refine c_region ?_
  refine seqq (o_alloc (ps := [P1 (bv .u64 0#64), P1 (bv .u64 0#64), P1 (bv .u64 0#64), P1 (bv .u64 0#64)]) Tryz.zeroValue51 (by kernel_rfl) rfl (fun b5 => ?_))
  refine c_nil ?_
  refine c_seq ?_
  refine c_region ?_
  refine seqq (o_y (y_move rfl) rfl ?_)
  refine seqq (o_y (y_quoI rfl rfl (by omega)) rfl ?_)
  refine j_re 25 rfl (show vI (((0 + r : Nat) : Int) / 64) = vI 0 from by congr 1; omega) ?_
  refine seqq (o_y (y_move rfl) rfl ?_)
  refine seqq (o_y (y_remI rfl rfl (by omega)) rfl ?_)
  refine j_re 27 rfl (show vI (((0 + r : Nat) : Int) % 64) = vI ((r : Nat) : Int) from by congr 1; omega) ?_
  refine seqq (o_y (y_assign rfl) rfl ?_)
  refine seqq (o_y (y_assign rfl) rfl ?_)
  refine c_nil ?_
  refine c_seq ?_
  refine c_seq ?_
  refine c_region ?_
  refine seqq (o_y (y_assign rfl) rfl ?_)
  refine c_nil ?_
  refine c_block ?_
  refine c_loop 5 ?_
  refine c_round ?_
  refine c_seq ?_
  refine c_seq ?_
  refine c_region ?_
  refine seqq (o_y (y_move rfl) rfl ?_)
  refine seqq (o_y (y_move rfl) rfl ?_)
  refine seqq (o_y (y_binZ (v := .int .i64 0) rfl rfl (fun _ => by rfl)) rfl ?_)
  refine seqq (o_y (y_binZ (v := .bool true) rfl rfl (fun _ => by rfl)) rfl ?_)
  refine c_nil ?_
  refine c_condT rfl ?_
  refine c_skip ?_
  refine c_seq ?_
  refine c_block ?_
  refine c_seq ?_
  refine c_region ?_
  refine seqq (o_y (y_move rfl) rfl ?_)
  refine seqq (o_y (y_move rfl) rfl ?_)
  refine seqq (o_y (y_move rfl) rfl ?_)
  refine seqq (o_y (y_binZ (v := .int .i64 0) rfl rfl (fun _ => by rfl)) rfl ?_)
  refine seqq (o_y (y_indexAddrA Tryz.runUnderlying51 Tryz.sizeOf49 rfl rfl (by decide)) rfl ?_)
  refine seqq (o_y (l1 Tryz.isAgg49 rfl (by rfl)) rfl ?_)
  refine seqq (o_y (y_move rfl) rfl ?_)
  refine seqq (o_y (y_shrB UK.u64 rfl rfl) rfl ?_)
  refine seqq (o_y (y_indexAddrA Tryz.runUnderlying51 Tryz.sizeOf49 rfl rfl (by decide)) rfl ?_)
  refine seqq (st1 (h1 := rfl) Tryz.sizeOf49 rfl rfl (by rfl) (by rfl) ?_)
  refine c_nil ?_
  refine c_seq ?_
  refine c_region ?_
  refine seqq (o_y (y_move rfl) rfl ?_)
  refine seqq (o_y (y_move rfl) rfl ?_)
  refine seqq (o_y (y_binZ (v := .int .i64 0) rfl rfl (fun _ => by rfl)) rfl ?_)
  refine seqq (o_y (y_binZ (v := .int .i64 1) rfl rfl (fun _ => by rfl)) rfl ?_)
  refine seqq (o_y (y_binZ (v := .bool true) rfl rfl (fun _ => by rfl)) rfl ?_)
  refine seqq (o_y (y_move rfl) rfl ?_)
  refine seqq (guard_true rfl rfl (o_y (y_move rfl) rfl ?_))
  refine seqq (guard_true rfl rfl (o_y (y_gtrZ rfl rfl) rfl ?_))
  refine j_re 50 rfl (decT (by omega)) ?_
  refine seqq (o_y (y_pick_t rfl rfl) rfl ?_)
  refine c_nil ?_
  refine c_condT rfl ?_
  refine d_reg 14 mixed rfl ?_
  refine d_y (i := 0) (k' := 1) rfl (by kernel_rfl) (y_move rfl) rfl ?_
  refine d_y (i := 1) (k' := 3) rfl (by kernel_rfl) (y_indexAddrA Tryz.runUnderlying51 Tryz.sizeOf49 rfl rfl (by decide)) rfl ?_
  refine d_s (i := 2) (k' := 7) rfl (by kernel_rfl) (by kernel_rfl) (l1 Tryz.isAgg49 rfl (by rfl)) hss rfl ?_
  refine d_y (i := 3) (k' := 15) rfl (by kernel_rfl) (y_move rfl) rfl ?_
  refine d_y (i := 4) (k' := 31) rfl (by kernel_rfl) (y_move rfl) rfl ?_
  refine d_y (i := 5) (k' := 63) rfl (by kernel_rfl) (y_binZ (v := .int .i64 0) rfl rfl (fun _ => by rfl)) rfl ?_
  refine d_y (i := 6) (k' := 127) rfl (by kernel_rfl) (y_binZ (v := .int .i64 1) rfl rfl (fun _ => by rfl)) rfl ?_
  refine d_y (i := 7) (k' := 255) rfl (by kernel_rfl) (y_indexAddrA Tryz.runUnderlying51 Tryz.sizeOf49 rfl rfl (by decide)) rfl ?_
  refine d_s (i := 8) (k' := 511) rfl (by kernel_rfl) (by kernel_rfl) (l1 Tryz.isAgg49 rfl (by rfl)) hss rfl ?_
  refine d_y (i := 9) (k' := 1023) rfl (by kernel_rfl) (y_move rfl) rfl ?_
  refine d_y (i := 10) (k' := 2047) rfl (by kernel_rfl) (y_subI rfl rfl (by omega)) rfl ?_
  refine j_re 62 rfl (show vI (64 - ((r : Nat) : Int)) = vI ((64 - r : Nat) : Int) from by congr 1; omega) ?_
  refine d_y (i := 11) (k' := 4095) rfl (by kernel_rfl) (y_shlB UK.u64 rfl rfl) rfl ?_
  refine d_y (i := 12) (k' := 8191) rfl (by kernel_rfl) (y_orB UK.u64 rfl rfl) rfl ?_
  refine d_y (i := 13) (k' := 16383) rfl (by kernel_rfl) (y_indexAddrA Tryz.runUnderlying51 Tryz.sizeOf49 rfl rfl (by decide)) rfl ?_
  refine d_e (i := 14) (k' := 32767) rfl (by kernel_rfl) (st1 (h1 := rfl) Tryz.sizeOf49 rfl rfl (by rfl) (by rfl) ( d_past rfl ?_))
  refine d_end (by kernel_rfl) ?_
  refine c_region ?_
  refine seqq (o_y (y_move rfl) rfl ?_)
  refine seqq (o_y (y_binZ (v := .int .i64 1) rfl rfl (fun _ => by rfl)) rfl ?_)
  refine seqq (o_y (y_assign rfl) rfl ?_)
  refine c_nil ?_
  refine c_round ?_
  refine c_seq ?_
  refine c_seq ?_
  refine c_region ?_
  refine seqq (o_y (y_move rfl) rfl ?_)
  refine seqq (o_y (y_move rfl) rfl ?_)
  refine seqq (o_y (y_binZ (v := .int .i64 1) rfl rfl (fun _ => by rfl)) rfl ?_)
  refine seqq (o_y (y_binZ (v := .bool true) rfl rfl (fun _ => by rfl)) rfl ?_)
  refine c_nil ?_
  refine c_condT rfl ?_
  refine c_skip ?_
  refine c_seq ?_
  refine c_block ?_
  refine c_seq ?_
  refine c_region ?_
  refine seqq (o_y (y_move rfl) rfl ?_)
  refine seqq (o_y (y_move rfl) rfl ?_)
  refine seqq (o_y (y_move rfl) rfl ?_)
  refine seqq (o_y (y_binZ (v := .int .i64 1) rfl rfl (fun _ => by rfl)) rfl ?_)
  refine seqq (o_y (y_indexAddrA Tryz.runUnderlying51 Tryz.sizeOf49 rfl rfl (by decide)) rfl ?_)
  refine seqq (o_y (l1 Tryz.isAgg49 rfl (by rfl)) rfl ?_)
  refine seqq (o_y (y_move rfl) rfl ?_)
  refine seqq (o_y (y_shrB UK.u64 rfl rfl) rfl ?_)
  refine seqq (o_y (y_indexAddrA Tryz.runUnderlying51 Tryz.sizeOf49 rfl rfl (by decide)) rfl ?_)
  refine seqq (st1 (h1 := rfl) Tryz.sizeOf49 rfl rfl (by rfl) (by rfl) ?_)
  refine c_nil ?_
  refine c_seq ?_
  refine c_region ?_
  refine seqq (o_y (y_move rfl) rfl ?_)
  refine seqq (o_y (y_move rfl) rfl ?_)
  refine seqq (o_y (y_binZ (v := .int .i64 1) rfl rfl (fun _ => by rfl)) rfl ?_)
  refine seqq (o_y (y_binZ (v := .int .i64 2) rfl rfl (fun _ => by rfl)) rfl ?_)
  refine seqq (o_y (y_binZ (v := .bool true) rfl rfl (fun _ => by rfl)) rfl ?_)
  refine seqq (o_y (y_move rfl) rfl ?_)
  refine seqq (guard_true rfl rfl (o_y (y_move rfl) rfl ?_))
  refine seqq (guard_true rfl rfl (o_y (y_gtrZ rfl rfl) rfl ?_))
  refine j_re 50 rfl (decT (by omega)) ?_
  refine seqq (o_y (y_pick_t rfl rfl) rfl ?_)
  refine c_nil ?_
  refine c_condT rfl ?_
  refine d_reg 14 mixed rfl ?_
  refine d_y (i := 0) (k' := 1) rfl (by kernel_rfl) (y_move rfl) rfl ?_
  refine d_y (i := 1) (k' := 3) rfl (by kernel_rfl) (y_indexAddrA Tryz.runUnderlying51 Tryz.sizeOf49 rfl rfl (by decide)) rfl ?_
  refine d_s (i := 2) (k' := 7) rfl (by kernel_rfl) (by kernel_rfl) (l1 Tryz.isAgg49 rfl (by rfl)) hss rfl ?_
  refine d_y (i := 3) (k' := 15) rfl (by kernel_rfl) (y_move rfl) rfl ?_
  refine d_y (i := 4) (k' := 31) rfl (by kernel_rfl) (y_move rfl) rfl ?_
  refine d_y (i := 5) (k' := 63) rfl (by kernel_rfl) (y_binZ (v := .int .i64 1) rfl rfl (fun _ => by rfl)) rfl ?_
  refine d_y (i := 6) (k' := 127) rfl (by kernel_rfl) (y_binZ (v := .int .i64 2) rfl rfl (fun _ => by rfl)) rfl ?_
  refine d_y (i := 7) (k' := 255) rfl (by kernel_rfl) (y_indexAddrA Tryz.runUnderlying51 Tryz.sizeOf49 rfl rfl (by decide)) rfl ?_
  refine d_s (i := 8) (k' := 511) rfl (by kernel_rfl) (by kernel_rfl) (l1 Tryz.isAgg49 rfl (by rfl)) hss rfl ?_
  refine d_y (i := 9) (k' := 1023) rfl (by kernel_rfl) (y_move rfl) rfl ?_
  refine d_y (i := 10) (k' := 2047) rfl (by kernel_rfl) (y_subI rfl rfl (by omega)) rfl ?_
  refine j_re 62 rfl (show vI (64 - ((r : Nat) : Int)) = vI ((64 - r : Nat) : Int) from by congr 1; omega) ?_
  refine d_y (i := 11) (k' := 4095) rfl (by kernel_rfl) (y_shlB UK.u64 rfl rfl) rfl ?_
  refine d_y (i := 12) (k' := 8191) rfl (by kernel_rfl) (y_orB UK.u64 rfl rfl) rfl ?_
  refine d_y (i := 13) (k' := 16383) rfl (by kernel_rfl) (y_indexAddrA Tryz.runUnderlying51 Tryz.sizeOf49 rfl rfl (by decide)) rfl ?_
  refine d_e (i := 14) (k' := 32767) rfl (by kernel_rfl) (st1 (h1 := rfl) Tryz.sizeOf49 rfl rfl (by rfl) (by rfl) ( d_past rfl ?_))
  refine d_end (by kernel_rfl) ?_
  refine c_region ?_
  refine seqq (o_y (y_move rfl) rfl ?_)
  refine seqq (o_y (y_binZ (v := .int .i64 2) rfl rfl (fun _ => by rfl)) rfl ?_)
  refine seqq (o_y (y_assign rfl) rfl ?_)
  refine c_nil ?_
  refine c_round ?_
  refine c_seq ?_
  refine c_seq ?_
  refine c_region ?_
  refine seqq (o_y (y_move rfl) rfl ?_)
  refine seqq (o_y (y_move rfl) rfl ?_)
  refine seqq (o_y (y_binZ (v := .int .i64 2) rfl rfl (fun _ => by rfl)) rfl ?_)
  refine seqq (o_y (y_binZ (v := .bool true) rfl rfl (fun _ => by rfl)) rfl ?_)
  refine c_nil ?_
  refine c_condT rfl ?_
  refine c_skip ?_
  refine c_seq ?_
  refine c_block ?_
  refine c_seq ?_
  refine c_region ?_
  refine seqq (o_y (y_move rfl) rfl ?_)
  refine seqq (o_y (y_move rfl) rfl ?_)
  refine seqq (o_y (y_move rfl) rfl ?_)
  refine seqq (o_y (y_binZ (v := .int .i64 2) rfl rfl (fun _ => by rfl)) rfl ?_)
  refine seqq (o_y (y_indexAddrA Tryz.runUnderlying51 Tryz.sizeOf49 rfl rfl (by decide)) rfl ?_)
  refine seqq (o_y (l1 Tryz.isAgg49 rfl (by rfl)) rfl ?_)
  refine seqq (o_y (y_move rfl) rfl ?_)
  refine seqq (o_y (y_shrB UK.u64 rfl rfl) rfl ?_)
  refine seqq (o_y (y_indexAddrA Tryz.runUnderlying51 Tryz.sizeOf49 rfl rfl (by decide)) rfl ?_)
  refine seqq (st1 (h1 := rfl) Tryz.sizeOf49 rfl rfl (by rfl) (by rfl) ?_)
  refine c_nil ?_
  refine c_seq ?_
  refine c_region ?_
  refine seqq (o_y (y_move rfl) rfl ?_)
  refine seqq (o_y (y_move rfl) rfl ?_)
  refine seqq (o_y (y_binZ (v := .int .i64 2) rfl rfl (fun _ => by rfl)) rfl ?_)
  refine seqq (o_y (y_binZ (v := .int .i64 3) rfl rfl (fun _ => by rfl)) rfl ?_)
  refine seqq (o_y (y_binZ (v := .bool true) rfl rfl (fun _ => by rfl)) rfl ?_)
  refine seqq (o_y (y_move rfl) rfl ?_)
  refine seqq (guard_true rfl rfl (o_y (y_move rfl) rfl ?_))
  refine seqq (guard_true rfl rfl (o_y (y_gtrZ rfl rfl) rfl ?_))
  refine j_re 50 rfl (decT (by omega)) ?_
  refine seqq (o_y (y_pick_t rfl rfl) rfl ?_)
  refine c_nil ?_
  refine c_condT rfl ?_
  refine d_reg 14 mixed rfl ?_
  refine d_y (i := 0) (k' := 1) rfl (by kernel_rfl) (y_move rfl) rfl ?_
  refine d_y (i := 1) (k' := 3) rfl (by kernel_rfl) (y_indexAddrA Tryz.runUnderlying51 Tryz.sizeOf49 rfl rfl (by decide)) rfl ?_
  refine d_s (i := 2) (k' := 7) rfl (by kernel_rfl) (by kernel_rfl) (l1 Tryz.isAgg49 rfl (by rfl)) hss rfl ?_
  refine d_y (i := 3) (k' := 15) rfl (by kernel_rfl) (y_move rfl) rfl ?_
  refine d_y (i := 4) (k' := 31) rfl (by kernel_rfl) (y_move rfl) rfl ?_
  refine d_y (i := 5) (k' := 63) rfl (by kernel_rfl) (y_binZ (v := .int .i64 2) rfl rfl (fun _ => by rfl)) rfl ?_
  refine d_y (i := 6) (k' := 127) rfl (by kernel_rfl) (y_binZ (v := .int .i64 3) rfl rfl (fun _ => by rfl)) rfl ?_
  refine d_y (i := 7) (k' := 255) rfl (by kernel_rfl) (y_indexAddrA Tryz.runUnderlying51 Tryz.sizeOf49 rfl rfl (by decide)) rfl ?_
  refine d_s (i := 8) (k' := 511) rfl (by kernel_rfl) (by kernel_rfl) (l1 Tryz.isAgg49 rfl (by rfl)) hss rfl ?_
  refine d_y (i := 9) (k' := 1023) rfl (by kernel_rfl) (y_move rfl) rfl ?_
  refine d_y (i := 10) (k' := 2047) rfl (by kernel_rfl) (y_subI rfl rfl (by omega)) rfl ?_
  refine j_re 62 rfl (show vI (64 - ((r : Nat) : Int)) = vI ((64 - r : Nat) : Int) from by congr 1; omega) ?_
  refine d_y (i := 11) (k' := 4095) rfl (by kernel_rfl) (y_shlB UK.u64 rfl rfl) rfl ?_
  refine d_y (i := 12) (k' := 8191) rfl (by kernel_rfl) (y_orB UK.u64 rfl rfl) rfl ?_
  refine d_y (i := 13) (k' := 16383) rfl (by kernel_rfl) (y_indexAddrA Tryz.runUnderlying51 Tryz.sizeOf49 rfl rfl (by decide)) rfl ?_
  refine d_e (i := 14) (k' := 32767) rfl (by kernel_rfl) (st1 (h1 := rfl) Tryz.sizeOf49 rfl rfl (by rfl) (by rfl) ( d_past rfl ?_))
  refine d_end (by kernel_rfl) ?_
  refine c_region ?_
  refine seqq (o_y (y_move rfl) rfl ?_)
  refine seqq (o_y (y_binZ (v := .int .i64 3) rfl rfl (fun _ => by rfl)) rfl ?_)
  refine seqq (o_y (y_assign rfl) rfl ?_)
  refine c_nil ?_
  refine c_round ?_
  refine c_seq ?_
  refine c_seq ?_
  refine c_region ?_
  refine seqq (o_y (y_move rfl) rfl ?_)
  refine seqq (o_y (y_move rfl) rfl ?_)
  refine seqq (o_y (y_binZ (v := .int .i64 3) rfl rfl (fun _ => by rfl)) rfl ?_)
  refine seqq (o_y (y_binZ (v := .bool true) rfl rfl (fun _ => by rfl)) rfl ?_)
  refine c_nil ?_
  refine c_condT rfl ?_
  refine c_skip ?_
  refine c_seq ?_
  refine c_block ?_
  refine c_seq ?_
  refine c_region ?_
  refine seqq (o_y (y_move rfl) rfl ?_)
  refine seqq (o_y (y_move rfl) rfl ?_)
  refine seqq (o_y (y_move rfl) rfl ?_)
  refine seqq (o_y (y_binZ (v := .int .i64 3) rfl rfl (fun _ => by rfl)) rfl ?_)
  refine seqq (o_y (y_indexAddrA Tryz.runUnderlying51 Tryz.sizeOf49 rfl rfl (by decide)) rfl ?_)
  refine seqq (o_y (l1 Tryz.isAgg49 rfl (by rfl)) rfl ?_)
  refine seqq (o_y (y_move rfl) rfl ?_)
  refine seqq (o_y (y_shrB UK.u64 rfl rfl) rfl ?_)
  refine seqq (o_y (y_indexAddrA Tryz.runUnderlying51 Tryz.sizeOf49 rfl rfl (by decide)) rfl ?_)
  refine seqq (st1 (h1 := rfl) Tryz.sizeOf49 rfl rfl (by rfl) (by rfl) ?_)
  refine c_nil ?_
  refine c_seq ?_
  refine c_region ?_
  refine seqq (o_y (y_move rfl) rfl ?_)
  refine seqq (o_y (y_move rfl) rfl ?_)
  refine seqq (o_y (y_binZ (v := .int .i64 3) rfl rfl (fun _ => by rfl)) rfl ?_)
  refine seqq (o_y (y_binZ (v := .int .i64 4) rfl rfl (fun _ => by rfl)) rfl ?_)
  refine seqq (o_y (y_binZ (v := .bool false) rfl rfl (fun _ => by rfl)) rfl ?_)
  refine seqq (o_y (y_move rfl) rfl ?_)
  refine seqq (guard_false (c := false) rfl rfl rfl rfl ?_)
  refine seqq (guard_false (c := false) rfl rfl rfl rfl ?_)
  refine seqq (o_y (y_pick_f rfl rfl) rfl ?_)
  refine c_nil ?_
  refine c_condF rfl ?_
  refine c_skip ?_
  refine c_region ?_
  refine seqq (o_y (y_move rfl) rfl ?_)
  refine seqq (o_y (y_binZ (v := .int .i64 4) rfl rfl (fun _ => by rfl)) rfl ?_)
  refine seqq (o_y (y_assign rfl) rfl ?_)
  refine c_nil ?_
  refine c_round ?_
  refine c_seq ?_
  refine c_seq ?_
  refine c_region ?_
  refine seqq (o_y (y_move rfl) rfl ?_)
  refine seqq (o_y (y_move rfl) rfl ?_)
  refine seqq (o_y (y_binZ (v := .int .i64 4) rfl rfl (fun _ => by rfl)) rfl ?_)
  refine seqq (o_y (y_binZ (v := .bool false) rfl rfl (fun _ => by rfl)) rfl ?_)
  refine c_nil ?_
  refine c_condF rfl ?_
  refine c_exit ?_
  refine c_seq ?_
  refine c_region ?_
  refine seqq (o_y (lN Tryz.isAgg51 Tryz.sizeOf51 rfl (by rfl)) rfl ?_)
  refine seqq (stN Tryz.sizeOf51 rfl rfl (by rfl) rfl (by rfl) ?_)
  refine c_nil ?_
  refine c_ret ?_
  refine c_done1 Tryz.results113 (rN Tryz.isAgg51 Tryz.sizeOf51 rfl (by rfl)) (fun w hS => ?_)
  exact ⟨rfl, hS.none⟩

theorem wide_Right_1_0 (a b c d : BitVec 64) (r : Nat) (hr : r < 64) (h0 : ¬ 0 < r) : Pure Tryz.prog 113 [vagg (wide a b c d), vI ((64 + r : Nat) : Int)] (vagg (wide (b >>> r) (c >>> r) (d >>> r) 0#64)) := by
  intro w
  refine begin0 Tryz.func113 rfl Tryz.ntmps113 rfl ?_
  refine c_seq ?_
  refine c_region ?_
  refine seqq (o_box (T := 51) rfl (IsP.agg).cells rfl (fun b2 => ?_))
  refine seqq (o_alloc (ps := [P1 (bv .u64 0#64), P1 (bv .u64 0#64), P1 (bv .u64 0#64), P1 (bv .u64 0#64)]) Tryz.zeroValue51 (by kernel_rfl) rfl (fun b4 => ?_))
  refine c_nil ?_
  refine c_seq ?_
  refine c_block ?_
  refine c_seq ?_
  refine c_region ?_
  refine seqq (o_y (y_move rfl) rfl ?_)
  refine seqq (o_y (y_leqZ rfl rfl) rfl ?_)
  refine j_re 11 rfl (decF (by omega)) ?_
  refine seqq (o_y (y_move rfl) rfl ?_)
  refine seqq (guard_true rfl rfl (o_y (y_move rfl) rfl ?_))
  refine seqq (guard_true rfl rfl (o_y (y_geqZ rfl rfl) rfl ?_))
  refine j_re 14 rfl (decF (by omega)) ?_
  refine seqq (o_y (y_pick_f rfl rfl) rfl ?_)
  refine seqq (o_y (y_assign rfl) rfl ?_)
  refine c_nil ?_
  refine c_condF rfl ?_
  refine c_seq ?_
  refine c_region ?_
  refine seqq (o_y (y_move rfl) rfl ?_)
  refine seqq (o_y (y_lssZ rfl rfl) rfl ?_)
  refine j_re 19 rfl (decF (by omega)) ?_
  refine seqq (o_y (y_assign rfl) rfl ?_)
  refine c_nil ?_
  refine c_condF rfl ?_
  refine c_skip ?_
  refine c_seq ?_
  refine c_region ?_
  refine seqq (o_alloc (ps := [P1 (bv .u64 0#64), P1 (bv .u64 0#64), P1 (bv .u64 0#64), P1 (bv .u64 0#64)]) Tryz.zeroValue51 (by kernel_rfl) rfl (fun b5 => ?_))
  refine c_nil ?_
  refine c_seq ?_
  refine c_region ?_
  refine seqq (o_y (y_move rfl) rfl ?_)
  refine seqq (o_y (y_quoI rfl rfl (by omega)) rfl ?_)
  refine j_re 25 rfl (show vI (((64 + r : Nat) : Int) / 64) = vI 1 from by congr 1; omega) ?_
  refine seqq (o_y (y_move rfl) rfl ?_)
  refine seqq (o_y (y_remI rfl rfl (by omega)) rfl ?_)
  refine j_re 27 rfl (show vI (((64 + r : Nat) : Int) % 64) = vI ((r : Nat) : Int) from by congr 1; omega) ?_
  refine seqq (o_y (y_assign rfl) rfl ?_)
  refine seqq (o_y (y_assign rfl) rfl ?_)
  refine c_nil ?_
  refine c_seq ?_
  refine c_seq ?_
  refine c_region ?_
  refine seqq (o_y (y_assign rfl) rfl ?_)
  refine c_nil ?_
  refine c_block ?_
  refine c_loop 5 ?_
  refine c_round ?_
  refine c_seq ?_
  refine c_seq ?_
  refine c_region ?_
  refine seqq (o_y (y_move rfl) rfl ?_)
  refine seqq (o_y (y_move rfl) rfl ?_)
  refine seqq (o_y (y_binZ (v := .int .i64 1) rfl rfl (fun _ => by rfl)) rfl ?_)
  refine seqq (o_y (y_binZ (v := .bool true) rfl rfl (fun _ => by rfl)) rfl ?_)
  refine c_nil ?_
  refine c_condT rfl ?_
  refine c_skip ?_
  refine c_seq ?_
  refine c_block ?_
  refine c_seq ?_
  refine c_region ?_
  refine seqq (o_y (y_move rfl) rfl ?_)
  refine seqq (o_y (y_move rfl) rfl ?_)
  refine seqq (o_y (y_move rfl) rfl ?_)
  refine seqq (o_y (y_binZ (v := .int .i64 1) rfl rfl (fun _ => by rfl)) rfl ?_)
  refine seqq (o_y (y_indexAddrA Tryz.runUnderlying51 Tryz.sizeOf49 rfl rfl (by decide)) rfl ?_)
  refine seqq (o_y (l1 Tryz.isAgg49 rfl (by rfl)) rfl ?_)
  refine seqq (o_y (y_move rfl) rfl ?_)
  refine seqq (o_y (y_shrB UK.u64 rfl rfl) rfl ?_)
  refine seqq (o_y (y_indexAddrA Tryz.runUnderlying51 Tryz.sizeOf49 rfl rfl (by decide)) rfl ?_)
  refine seqq (st1 (h1 := rfl) Tryz.sizeOf49 rfl rfl (by rfl) (by rfl) ?_)
  refine c_nil ?_
  refine c_seq ?_
  refine c_region ?_
  refine seqq (o_y (y_move rfl) rfl ?_)
  refine seqq (o_y (y_move rfl) rfl ?_)
  refine seqq (o_y (y_binZ (v := .int .i64 1) rfl rfl (fun _ => by rfl)) rfl ?_)
  refine seqq (o_y (y_binZ (v := .int .i64 2) rfl rfl (fun _ => by rfl)) rfl ?_)
  refine seqq (o_y (y_binZ (v := .bool true) rfl rfl (fun _ => by rfl)) rfl ?_)
  refine seqq (o_y (y_move rfl) rfl ?_)
  refine seqq (guard_true rfl rfl (o_y (y_move rfl) rfl ?_))
  refine seqq (guard_true rfl rfl (o_y (y_gtrZ rfl rfl) rfl ?_))
  refine j_re 50 rfl (decF (by omega)) ?_
  refine seqq (o_y (y_pick_t rfl rfl) rfl ?_)
  refine c_nil ?_
  refine c_condF rfl ?_
  refine c_skip ?_
  refine c_region ?_
  refine seqq (o_y (y_move rfl) rfl ?_)
  refine seqq (o_y (y_binZ (v := .int .i64 1) rfl rfl (fun _ => by rfl)) rfl ?_)
  refine seqq (o_y (y_assign rfl) rfl ?_)
  refine c_nil ?_
  refine c_round ?_
  refine c_seq ?_
  refine c_seq ?_
  refine c_region ?_
  refine seqq (o_y (y_move rfl) rfl ?_)
  refine seqq (o_y (y_move rfl) rfl ?_)
  refine seqq (o_y (y_binZ (v := .int .i64 2) rfl rfl (fun _ => by rfl)) rfl ?_)
  refine seqq (o_y (y_binZ (v := .bool true) rfl rfl (fun _ => by rfl)) rfl ?_)
  refine c_nil ?_
  refine c_condT rfl ?_
  refine c_skip ?_
  refine c_seq ?_
  refine c_block ?_
  refine c_seq ?_
  refine c_region ?_
  refine seqq (o_y (y_move rfl) rfl ?_)
  refine seqq (o_y (y_move rfl) rfl ?_)
  refine seqq (o_y (y_move rfl) rfl ?_)
  refine seqq (o_y (y_binZ (v := .int .i64 2) rfl rfl (fun _ => by rfl)) rfl ?_)
  refine seqq (o_y (y_indexAddrA Tryz.runUnderlying51 Tryz.sizeOf49 rfl rfl (by decide)) rfl ?_)
  refine seqq (o_y (l1 Tryz.isAgg49 rfl (by rfl)) rfl ?_)
  refine seqq (o_y (y_move rfl) rfl ?_)
  refine seqq (o_y (y_shrB UK.u64 rfl rfl) rfl ?_)
  refine seqq (o_y (y_indexAddrA Tryz.runUnderlying51 Tryz.sizeOf49 rfl rfl (by decide)) rfl ?_)
  refine seqq (st1 (h1 := rfl) Tryz.sizeOf49 rfl rfl (by rfl) (by rfl) ?_)
  refine c_nil ?_
  refine c_seq ?_
  refine c_region ?_
  refine seqq (o_y (y_move rfl) rfl ?_)
  refine seqq (o_y (y_move rfl) rfl ?_)
  refine seqq (o_y (y_binZ (v := .int .i64 2) rfl rfl (fun _ => by rfl)) rfl ?_)
  refine seqq (o_y (y_binZ (v := .int .i64 3) rfl rfl (fun _ => by rfl)) rfl ?_)
  refine seqq (o_y (y_binZ (v := .bool true) rfl rfl (fun _ => by rfl)) rfl ?_)
  refine seqq (o_y (y_move rfl) rfl ?_)
  refine seqq (guard_true rfl rfl (o_y (y_move rfl) rfl ?_))
  refine seqq (guard_true rfl rfl (o_y (y_gtrZ rfl rfl) rfl ?_))
  refine j_re 50 rfl (decF (by omega)) ?_
  refine seqq (o_y (y_pick_t rfl rfl) rfl ?_)
  refine c_nil ?_
  refine c_condF rfl ?_
  refine c_skip ?_
  refine c_region ?_
  refine seqq (o_y (y_move rfl) rfl ?_)
  refine seqq (o_y (y_binZ (v := .int .i64 2) rfl rfl (fun _ => by rfl)) rfl ?_)
  refine seqq (o_y (y_assign rfl) rfl ?_)
  refine c_nil ?_
  refine c_round ?_
  refine c_seq ?_
  refine c_seq ?_
  refine c_region ?_
  refine seqq (o_y (y_move rfl) rfl ?_)
  refine seqq (o_y (y_move rfl) rfl ?_)
  refine seqq (o_y (y_binZ (v := .int .i64 3) rfl rfl (fun _ => by rfl)) rfl ?_)
  refine seqq (o_y (y_binZ (v := .bool true) rfl rfl (fun _ => by rfl)) rfl ?_)
  refine c_nil ?_
  refine c_condT rfl ?_
  refine c_skip ?_
  refine c_seq ?_
  refine c_block ?_
  refine c_seq ?_
  refine c_region ?_
  refine seqq (o_y (y_move rfl) rfl ?_)
  refine seqq (o_y (y_move rfl) rfl ?_)
  refine seqq (o_y (y_move rfl) rfl ?_)
  refine seqq (o_y (y_binZ (v := .int .i64 3) rfl rfl (fun _ => by rfl)) rfl ?_)
  refine seqq (o_y (y_indexAddrA Tryz.runUnderlying51 Tryz.sizeOf49 rfl rfl (by decide)) rfl ?_)
  refine seqq (o_y (l1 Tryz.isAgg49 rfl (by rfl)) rfl ?_)
  refine seqq (o_y (y_move rfl) rfl ?_)
  refine seqq (o_y (y_shrB UK.u64 rfl rfl) rfl ?_)
  refine seqq (o_y (y_indexAddrA Tryz.runUnderlying51 Tryz.sizeOf49 rfl rfl (by decide)) rfl ?_)
  refine seqq (st1 (h1 := rfl) Tryz.sizeOf49 rfl rfl (by rfl) (by rfl) ?_)
  refine c_nil ?_
  refine c_seq ?_
  refine c_region ?_
  refine seqq (o_y (y_move rfl) rfl ?_)
  refine seqq (o_y (y_move rfl) rfl ?_)
  refine seqq (o_y (y_binZ (v := .int .i64 3) rfl rfl (fun _ => by rfl)) rfl ?_)
  refine seqq (o_y (y_binZ (v := .int .i64 4) rfl rfl (fun _ => by rfl)) rfl ?_)
  refine seqq (o_y (y_binZ (v := .bool false) rfl rfl (fun _ => by rfl)) rfl ?_)
  refine seqq (o_y (y_move rfl) rfl ?_)
  refine seqq (guard_false (c := false) rfl rfl rfl rfl ?_)
  refine seqq (guard_false (c := false) rfl rfl rfl rfl ?_)
  refine seqq (o_y (y_pick_f rfl rfl) rfl ?_)
  refine c_nil ?_
  refine c_condF rfl ?_
  refine c_skip ?_
  refine c_region ?_
  refine seqq (o_y (y_move rfl) rfl ?_)
  refine seqq (o_y (y_binZ (v := .int .i64 3) rfl rfl (fun _ => by rfl)) rfl ?_)
  refine seqq (o_y (y_assign rfl) rfl ?_)
  refine c_nil ?_
  refine c_round ?_
  refine c_seq ?_
  refine c_seq ?_
  refine c_region ?_
  refine seqq (o_y (y_move rfl) rfl ?_)
  refine seqq (o_y (y_move rfl) rfl ?_)
  refine seqq (o_y (y_binZ (v := .int .i64 4) rfl rfl (fun _ => by rfl)) rfl ?_)
  refine seqq (o_y (y_binZ (v := .bool false) rfl rfl (fun _ => by rfl)) rfl ?_)
  refine c_nil ?_
  refine c_condF rfl ?_
  refine c_exit ?_
  refine c_seq ?_
  refine c_region ?_
  refine seqq (o_y (lN Tryz.isAgg51 Tryz.sizeOf51 rfl (by rfl)) rfl ?_)
  refine seqq (stN Tryz.sizeOf51 rfl rfl (by rfl) rfl (by rfl) ?_)
  refine c_nil ?_
  refine c_ret ?_
  refine c_done1 Tryz.results113 (rN Tryz.isAgg51 Tryz.sizeOf51 rfl (by rfl)) (fun w hS => ?_)
  exact ⟨rfl, hS.none⟩

theorem wide_Right_1_1 (a b c d : BitVec 64) (r : Nat) (hr : r < 64) (h0 : 0 < r) : Pure Tryz.prog 113 [vagg (wide a b c d), vI ((64 + r : Nat) : Int)] (vagg (wide ((b >>> r) ||| (c <<< (64 - r))) ((c >>> r) ||| (d <<< (64 - r))) (d >>> r) 0#64)) := by
  intro w
  refine begin0 Tryz.func113 rfl Tryz.ntmps113 rfl ?_
  refine c_seq ?_
  refine c_region ?_
  refine seqq (o_box (T := 51) rfl (IsP.agg).cells rfl (fun b2 => ?_))
  refine seqq (o_alloc (ps := [P1 (bv .u64 0#64), P1 (bv .u64 0#64), P1 (bv .u64 0#64), P1 (bv .u64 0#64)]) Tryz.zeroValue51 (by kernel_rfl) rfl (fun b4 => ?_))
  refine c_nil ?_
  refine c_seq ?_
  refine c_block ?_
  refine c_seq ?_
  refine c_region ?_
  refine seqq (o_y (y_move rfl) rfl ?_)
  refine seqq (o_y (y_leqZ rfl rfl) rfl ?_)
  refine j_re 11 rfl (decF (by omega)) ?_
  refine seqq (o_y (y_move rfl) rfl ?_)
  refine seqq (guard_true rfl rfl (o_y (y_move rfl) rfl ?_))
  refine seqq (guard_true rfl rfl (o_y (y_geqZ rfl rfl) rfl ?_))
  refine j_re 14 rfl (decF (by omega)) ?_
  refine seqq (o_y (y_pick_f rfl rfl) rfl ?_)
  refine seqq (o_y (y_assign rfl) rfl ?_)
  refine c_nil ?_
  refine c_condF rfl ?_
  refine c_seq ?_
  refine c_region ?_
  refine seqq (o_y (y_move rfl) rfl ?_)
  refine seqq (o_y (y_lssZ rfl rfl) rfl ?_)
  refine j_re 19 rfl (decF (by omega)) ?_
  refine seqq (o_y (y_assign rfl) rfl ?_)
  refine c_nil ?_
  refine c_condF rfl ?_
  refine c_skip ?_
  refine c_seq ?_
  refine c_region ?_
  refine seqq (o_alloc (ps := [P1 (bv .u64 0#64), P1 (bv .u64 0#64), P1 (bv .u64 0#64), P1 (bv .u64 0#64)]) Tryz.zeroValue51 (by kernel_rfl) rfl (fun b5 => ?_))
  refine c_nil ?_
  refine c_seq ?_
  refine c_region ?_
  refine seqq (o_y (y_move rfl) rfl ?_)
  refine seqq (o_y (y_quoI rfl rfl (by omega)) rfl ?_)
  refine j_re 25 rfl (show vI (((64 + r : Nat) : Int) / 64) = vI 1 from by congr 1; omega) ?_
  refine seqq (o_y (y_move rfl) rfl ?_)
  refine seqq (o_y (y_remI rfl rfl (by omega)) rfl ?_)
  refine j_re 27 rfl (show vI (((64 + r : Nat) : Int) % 64) = vI ((r : Nat) : Int) from by congr 1; omega) ?_
  refine seqq (o_y (y_assign rfl) rfl ?_)
  refine seqq (o_y (y_assign rfl) rfl ?_)
  refine c_nil ?_
  refine c_seq ?_
  refine c_seq ?_
  refine c_region ?_
  refine seqq (o_y (y_assign rfl) rfl ?_)
  refine c_nil ?_
  refine c_block ?_
  refine c_loop 5 ?_
  refine c_round ?_
  refine c_seq ?_
  refine c_seq ?_
  refine c_region ?_
  refine seqq (o_y (y_move rfl) rfl ?_)
  refine seqq (o_y (y_move rfl) rfl ?_)
  refine seqq (o_y (y_binZ (v := .int .i64 1) rfl rfl (fun _ => by rfl)) rfl ?_)
  refine seqq (o_y (y_binZ (v := .bool true) rfl rfl (fun _ => by rfl)) rfl ?_)
  refine c_nil ?_
  refine c_condT rfl ?_
  refine c_skip ?_
  refine c_seq ?_
  refine c_block ?_
  refine c_seq ?_
  refine c_region ?_
  refine seqq (o_y (y_move rfl) rfl ?_)
  refine seqq (o_y (y_move rfl) rfl ?_)
  refine seqq (o_y (y_move rfl) rfl ?_)
  refine seqq (o_y (y_binZ (v := .int .i64 1) rfl rfl (fun _ => by rfl)) rfl ?_)
  refine seqq (o_y (y_indexAddrA Tryz.runUnderlying51 Tryz.sizeOf49 rfl rfl (by decide)) rfl ?_)
  refine seqq (o_y (l1 Tryz.isAgg49 rfl (by rfl)) rfl ?_)
  refine seqq (o_y (y_move rfl) rfl ?_)
  refine seqq (o_y (y_shrB UK.u64 rfl rfl) rfl ?_)
  refine seqq (o_y (y_indexAddrA Tryz.runUnderlying51 Tryz.sizeOf49 rfl rfl (by decide)) rfl ?_)
  refine seqq (st1 (h1 := rfl) Tryz.sizeOf49 rfl rfl (by rfl) (by rfl) ?_)
  refine c_nil ?_
  refine c_seq ?_
  refine c_region ?_
  refine seqq (o_y (y_move rfl) rfl ?_)
  refine seqq (o_y (y_move rfl) rfl ?_)
  refine seqq (o_y (y_binZ (v := .int .i64 1) rfl rfl (fun _ => by rfl)) rfl ?_)
  refine seqq (o_y (y_binZ (v := .int .i64 2) rfl rfl (fun _ => by rfl)) rfl ?_)
  refine seqq (o_y (y_binZ (v := .bool true) rfl rfl (fun _ => by rfl)) rfl ?_)
  refine seqq (o_y (y_move rfl) rfl ?_)
  refine seqq (guard_true rfl rfl (o_y (y_move rfl) rfl ?_))
  refine seqq (guard_true rfl rfl (o_y (y_gtrZ rfl rfl) rfl ?_))
  refine j_re 50 rfl (decT (by omega)) ?_
  refine seqq (o_y (y_pick_t rfl rfl) rfl ?_)
  refine c_nil ?_
  refine c_condT rfl ?_
  refine d_reg 14 mixed rfl ?_
  refine d_y (i := 0) (k' := 1) rfl (by kernel_rfl) (y_move rfl) rfl ?_
  refine d_y (i := 1) (k' := 3) rfl (by kernel_rfl) (y_indexAddrA Tryz.runUnderlying51 Tryz.sizeOf49 rfl rfl (by decide)) rfl ?_
  refine d_s (i := 2) (k' := 7) rfl (by kernel_rfl) (by kernel_rfl) (l1 Tryz.isAgg49 rfl (by rfl)) hss rfl ?_
  refine d_y (i := 3) (k' := 15) rfl (by kernel_rfl) (y_move rfl) rfl ?_
  refine d_y (i := 4) (k' := 31) rfl (by kernel_rfl) (y_move rfl) rfl ?_
  refine d_y (i := 5) (k' := 63) rfl (by kernel_rfl) (y_binZ (v := .int .i64 1) rfl rfl (fun _ => by rfl)) rfl ?_
  refine d_y (i := 6) (k' := 127) rfl (by kernel_rfl) (y_binZ (v := .int .i64 2) rfl rfl (fun _ => by rfl)) rfl ?_
  refine d_y (i := 7) (k' := 255) rfl (by kernel_rfl) (y_indexAddrA Tryz.runUnderlying51 Tryz.sizeOf49 rfl rfl (by decide)) rfl ?_
  refine d_s (i := 8) (k' := 511) rfl (by kernel_rfl) (by kernel_rfl) (l1 Tryz.isAgg49 rfl (by rfl)) hss rfl ?_
  refine d_y (i := 9) (k' := 1023) rfl (by kernel_rfl) (y_move rfl) rfl ?_
  refine d_y (i := 10) (k' := 2047) rfl (by kernel_rfl) (y_subI rfl rfl (by omega)) rfl ?_
  refine j_re 62 rfl (show vI (64 - ((r : Nat) : Int)) = vI ((64 - r : Nat) : Int) from by congr 1; omega) ?_
  refine d_y (i := 11) (k' := 4095) rfl (by kernel_rfl) (y_shlB UK.u64 rfl rfl) rfl ?_
  refine d_y (i := 12) (k' := 8191) rfl (by kernel_rfl) (y_orB UK.u64 rfl rfl) rfl ?_
  refine d_y (i := 13) (k' := 16383) rfl (by kernel_rfl) (y_indexAddrA Tryz.runUnderlying51 Tryz.sizeOf49 rfl rfl (by decide)) rfl ?_
  refine d_e (i := 14) (k' := 32767) rfl (by kernel_rfl) (st1 (h1 := rfl) Tryz.sizeOf49 rfl rfl (by rfl) (by rfl) ( d_past rfl ?_))
  refine d_end (by kernel_rfl) ?_
  refine c_region ?_
  refine seqq (o_y (y_move rfl) rfl ?_)
  refine seqq (o_y (y_binZ (v := .int .i64 1) rfl rfl (fun _ => by rfl)) rfl ?_)
  refine seqq (o_y (y_assign rfl) rfl ?_)
  refine c_nil ?_
  refine c_round ?_
  refine c_seq ?_
  refine c_seq ?_
  refine c_region ?_
  refine seqq (o_y (y_move rfl) rfl ?_)
  refine seqq (o_y (y_move rfl) rfl ?_)
  refine seqq (o_y (y_binZ (v := .int .i64 2) rfl rfl (fun _ => by rfl)) rfl ?_)
  refine seqq (o_y (y_binZ (v := .bool true) rfl rfl (fun _ => by rfl)) rfl ?_)
  refine c_nil ?_
  refine c_condT rfl ?_
  refine c_skip ?_
  refine c_seq ?_
  refine c_block ?_
  refine c_seq ?_
  refine c_region ?_
  refine seqq (o_y (y_move rfl) rfl ?_)
  refine seqq (o_y (y_move rfl) rfl ?_)
  refine seqq (o_y (y_move rfl) rfl ?_)
  refine seqq (o_y (y_binZ (v := .int .i64 2) rfl rfl (fun _ => by rfl)) rfl ?_)
  refine seqq (o_y (y_indexAddrA Tryz.runUnderlying51 Tryz.sizeOf49 rfl rfl (by decide)) rfl ?_)
  refine seqq (o_y (l1 Tryz.isAgg49 rfl (by rfl)) rfl ?_)
  refine seqq (o_y (y_move rfl) rfl ?_)
  refine seqq (o_y (y_shrB UK.u64 rfl rfl) rfl ?_)
  refine seqq (o_y (y_indexAddrA Tryz.runUnderlying51 Tryz.sizeOf49 rfl rfl (by decide)) rfl ?_)
  refine seqq (st1 (h1 := rfl) Tryz.sizeOf49 rfl rfl (by rfl) (by rfl) ?_)
  refine c_nil ?_
  refine c_seq ?_
  refine c_region ?_
  refine seqq (o_y (y_move rfl) rfl ?_)
  refine seqq (o_y (y_move rfl) rfl ?_)
  refine seqq (o_y (y_binZ (v := .int .i64 2) rfl rfl (fun _ => by rfl)) rfl ?_)
  refine seqq (o_y (y_binZ (v := .int .i64 3) rfl rfl (fun _ => by rfl)) rfl ?_)
  refine seqq (o_y (y_binZ (v := .bool true) rfl rfl (fun _ => by rfl)) rfl ?_)
  refine seqq (o_y (y_move rfl) rfl ?_)
  refine seqq (guard_true rfl rfl (o_y (y_move rfl) rfl ?_))
  refine seqq (guard_true rfl rfl (o_y (y_gtrZ rfl rfl) rfl ?_))
  refine j_re 50 rfl (decT (by omega)) ?_
  refine seqq (o_y (y_pick_t rfl rfl) rfl ?_)
  refine c_nil ?_
  refine c_condT rfl ?_
  refine d_reg 14 mixed rfl ?_
  refine d_y (i := 0) (k' := 1) rfl (by kernel_rfl) (y_move rfl) rfl ?_
  refine d_y (i := 1) (k' := 3) rfl (by kernel_rfl) (y_indexAddrA Tryz.runUnderlying51 Tryz.sizeOf49 rfl rfl (by decide)) rfl ?_
  refine d_s (i := 2) (k' := 7) rfl (by kernel_rfl) (by kernel_rfl) (l1 Tryz.isAgg49 rfl (by rfl)) hss rfl ?_
  refine d_y (i := 3) (k' := 15) rfl (by kernel_rfl) (y_move rfl) rfl ?_
  refine d_y (i := 4) (k' := 31) rfl (by kernel_rfl) (y_move rfl) rfl ?_
  refine d_y (i := 5) (k' := 63) rfl (by kernel_rfl) (y_binZ (v := .int .i64 2) rfl rfl (fun _ => by rfl)) rfl ?_
  refine d_y (i := 6) (k' := 127) rfl (by kernel_rfl) (y_binZ (v := .int .i64 3) rfl rfl (fun _ => by rfl)) rfl ?_
  refine d_y (i := 7) (k' := 255) rfl (by kernel_rfl) (y_indexAddrA Tryz.runUnderlying51 Tryz.sizeOf49 rfl rfl (by decide)) rfl ?_
  refine d_s (i := 8) (k' := 511) rfl (by kernel_rfl) (by kernel_rfl) (l1 Tryz.isAgg49 rfl (by rfl)) hss rfl ?_
  refine d_y (i := 9) (k' := 1023) rfl (by kernel_rfl) (y_move rfl) rfl ?_
  refine d_y (i := 10) (k' := 2047) rfl (by kernel_rfl) (y_subI rfl rfl (by omega)) rfl ?_
  refine j_re 62 rfl (show vI (64 - ((r : Nat) : Int)) = vI ((64 - r : Nat) : Int) from by congr 1; omega) ?_
  refine d_y (i := 11) (k' := 4095) rfl (by kernel_rfl) (y_shlB UK.u64 rfl rfl) rfl ?_
  refine d_y (i := 12) (k' := 8191) rfl (by kernel_rfl) (y_orB UK.u64 rfl rfl) rfl ?_
  refine d_y (i := 13) (k' := 16383) rfl (by kernel_rfl) (y_indexAddrA Tryz.runUnderlying51 Tryz.sizeOf49 rfl rfl (by decide)) rfl ?_
  refine d_e (i := 14) (k' := 32767) rfl (by kernel_rfl) (st1 (h1 := rfl) Tryz.sizeOf49 rfl rfl (by rfl) (by rfl) ( d_past rfl ?_))
  refine d_end (by kernel_rfl) ?_
  refine c_region ?_
  refine seqq (o_y (y_move rfl) rfl ?_)
  refine seqq (o_y (y_binZ (v := .int .i64 2) rfl rfl (fun _ => by rfl)) rfl ?_)
  refine seqq (o_y (y_assign rfl) rfl ?_)
  refine c_nil ?_
  refine c_round ?_
  refine c_seq ?_
  refine c_seq ?_
  refine c_region ?_
  refine seqq (o_y (y_move rfl) rfl ?_)
  refine seqq (o_y (y_move rfl) rfl ?_)
  refine seqq (o_y (y_binZ (v := .int .i64 3) rfl rfl (fun _ => by rfl)) rfl ?_)
  refine seqq (o_y (y_binZ (v := .bool true) rfl rfl (fun _ => by rfl)) rfl ?_)
  refine c_nil ?_
  refine c_condT rfl ?_
  refine c_skip ?_
  refine c_seq ?_
  refine c_block ?_
  refine c_seq ?_
  refine c_region ?_
  refine seqq (o_y (y_move rfl) rfl ?_)
  refine seqq (o_y (y_move rfl) rfl ?_)
  refine seqq (o_y (y_move rfl) rfl ?_)
  refine seqq (o_y (y_binZ (v := .int .i64 3) rfl rfl (fun _ => by rfl)) rfl ?_)
  refine seqq (o_y (y_indexAddrA Tryz.runUnderlying51 Tryz.sizeOf49 rfl rfl (by decide)) rfl ?_)
  refine seqq (o_y (l1 Tryz.isAgg49 rfl (by rfl)) rfl ?_)
  refine seqq (o_y (y_move rfl) rfl ?_)
  refine seqq (o_y (y_shrB UK.u64 rfl rfl) rfl ?_)
  refine seqq (o_y (y_indexAddrA Tryz.runUnderlying51 Tryz.sizeOf49 rfl rfl (by decide)) rfl ?_)
  refine seqq (st1 (h1 := rfl) Tryz.sizeOf49 rfl rfl (by rfl) (by rfl) ?_)
  refine c_nil ?_
  refine c_seq ?_
  refine c_region ?_
  refine seqq (o_y (y_move rfl) rfl ?_)
  refine seqq (o_y (y_move rfl) rfl ?_)
  refine seqq (o_y (y_binZ (v := .int .i64 3) rfl rfl (fun _ => by rfl)) rfl ?_)
  refine seqq (o_y (y_binZ (v := .int .i64 4) rfl rfl (fun _ => by rfl)) rfl ?_)
  refine seqq (o_y (y_binZ (v := .bool false) rfl rfl (fun _ => by rfl)) rfl ?_)
  refine seqq (o_y (y_move rfl) rfl ?_)
  refine seqq (guard_false (c := false) rfl rfl rfl rfl ?_)
  refine seqq (guard_false (c := false) rfl rfl rfl rfl ?_)
  refine seqq (o_y (y_pick_f rfl rfl) rfl ?_)
  refine c_nil ?_
  refine c_condF rfl ?_
  refine c_skip ?_
  refine c_region ?_
  refine seqq (o_y (y_move rfl) rfl ?_)
  refine seqq (o_y (y_binZ (v := .int .i64 3) rfl rfl (fun _ => by rfl)) rfl ?_)
  refine seqq (o_y (y_assign rfl) rfl ?_)
  refine c_nil ?_
  refine c_round ?_
  refine c_seq ?_
  refine c_seq ?_
  refine c_region ?_
  refine seqq (o_y (y_move rfl) rfl ?_)
  refine seqq (o_y (y_move rfl) rfl ?_)
  refine seqq (o_y (y_binZ (v := .int .i64 4) rfl rfl (fun _ => by rfl)) rfl ?_)
  refine seqq (o_y (y_binZ (v := .bool false) rfl rfl (fun _ => by rfl)) rfl ?_)
  refine c_nil ?_
  refine c_condF rfl ?_
  refine c_exit ?_
  refine c_seq ?_
  refine c_region ?_
  refine seqq (o_y (lN Tryz.isAgg51 Tryz.sizeOf51 rfl (by rfl)) rfl ?_)
  refine seqq (stN Tryz.sizeOf51 rfl rfl (by rfl) rfl (by rfl) ?_)
  refine c_nil ?_
  refine c_ret ?_
  refine c_done1 Tryz.results113 (rN Tryz.isAgg51 Tryz.sizeOf51 rfl (by rfl)) (fun w hS => ?_)
  exact ⟨rfl, hS.none⟩

theorem wide_Right_2_0 (a b c d : BitVec 64) (r : Nat) (hr : r < 64) (h0 : ¬ 0 < r) : Pure Tryz.prog 113 [vagg (wide a b c d), vI ((128 + r : Nat) : Int)] (vagg (wide (c >>> r) (d >>> r) 0#64 0#64)) := by
  intro w
  refine begin0 Tryz.func113 rfl Tryz.ntmps113 rfl ?_
  refine c_seq ?_
  refine c_region ?_
  refine seqq (o_box (T := 51) rfl (IsP.agg).cells rfl (fun b2 => ?_))
  refine seqq (o_alloc (ps := [P1 (bv .u64 0#64), P1 (bv .u64 0#64), P1 (bv .u64 0#64), P1 (bv .u64 0#64)]) Tryz.zeroValue51 (by kernel_rfl) rfl (fun b4 => ?_))
  refine c_nil ?_
  refine c_seq ?_
  refine c_block ?_
  refine c_seq ?_
  refine c_region ?_
  refine seqq (o_y (y_move rfl) rfl ?_)
  refine seqq (o_y (y_leqZ rfl rfl) rfl ?_)
  refine j_re 11 rfl (decF (by omega)) ?_
  refine seqq (o_y (y_move rfl) rfl ?_)
  refine seqq (guard_true rfl rfl (o_y (y_move rfl) rfl ?_))
  refine seqq (guard_true rfl rfl (o_y (y_geqZ rfl rfl) rfl ?_))
  refine j_re 14 rfl (decF (by omega)) ?_
  refine seqq (o_y (y_pick_f rfl rfl) rfl ?_)
  refine seqq (o_y (y_assign rfl) rfl ?_)
  refine c_nil ?_
  refine c_condF rfl ?_
  refine c_seq ?_
  refine c_region ?_
  refine seqq (o_y (y_move rfl) rfl ?_)
  refine seqq (o_y (y_lssZ rfl rfl) rfl ?_)
  refine j_re 19 rfl (decF (by omega)) ?_
  refine seqq (o_y (y_assign rfl) rfl ?_)
  refine c_nil ?_
  refine c_condF rfl ?_
  refine c_skip ?_
  refine c_seq ?_
  refine c_region ?_
  refine seqq (o_alloc (ps := [P1 (bv .u64 0#64), P1 (bv .u64 0#64), P1 (bv .u64 0#64), P1 (bv .u64 0#64)]) Tryz.zeroValue51 (by kernel_rfl) rfl (fun b5 => ?_))
  refine c_nil ?_
  refine c_seq ?_
  refine c_region ?_
  refine seqq (o_y (y_move rfl) rfl ?_)
  refine seqq (o_y (y_quoI rfl rfl (by omega)) rfl ?_)
  refine j_re 25 rfl (show vI (((128 + r : Nat) : Int) / 64) = vI 2 from by congr 1; omega) ?_
  refine seqq (o_y (y_move rfl) rfl ?_)
  refine seqq (o_y (y_remI rfl rfl (by omega)) rfl ?_)
  refine j_re 27 rfl (show vI (((128 + r : Nat) : Int) % 64) = vI ((r : Nat) : Int) from by congr 1; omega) ?_
  refine seqq (o_y (y_assign rfl) rfl ?_)
  refine seqq (o_y (y_assign rfl) rfl ?_)
  refine c_nil ?_
  refine c_seq ?_
  refine c_seq ?_
  refine c_region ?_
  refine seqq (o_y (y_assign rfl) rfl ?_)
  refine c_nil ?_
  refine c_block ?_
  refine c_loop 5 ?_
  refine c_round ?_
  refine c_seq ?_
  refine c_seq ?_
  refine c_region ?_
  refine seqq (o_y (y_move rfl) rfl ?_)
  refine seqq (o_y (y_move rfl) rfl ?_)
  refine seqq (o_y (y_binZ (v := .int .i64 2) rfl rfl (fun _ => by rfl)) rfl ?_)
  refine seqq (o_y (y_binZ (v := .bool true) rfl rfl (fun _ => by rfl)) rfl ?_)
  refine c_nil ?_
  refine c_condT rfl ?_
  refine c_skip ?_
  refine c_seq ?_
  refine c_block ?_
  refine c_seq ?_
  refine c_region ?_
  refine seqq (o_y (y_move rfl) rfl ?_)
  refine seqq (o_y (y_move rfl) rfl ?_)
  refine seqq (o_y (y_move rfl) rfl ?_)
  refine seqq (o_y (y_binZ (v := .int .i64 2) rfl rfl (fun _ => by rfl)) rfl ?_)
  refine seqq (o_y (y_indexAddrA Tryz.runUnderlying51 Tryz.sizeOf49 rfl rfl (by decide)) rfl ?_)
  refine seqq (o_y (l1 Tryz.isAgg49 rfl (by rfl)) rfl ?_)
  refine seqq (o_y (y_move rfl) rfl ?_)
  refine seqq (o_y (y_shrB UK.u64 rfl rfl) rfl ?_)
  refine seqq (o_y (y_indexAddrA Tryz.runUnderlying51 Tryz.sizeOf49 rfl rfl (by decide)) rfl ?_)
  refine seqq (st1 (h1 := rfl) Tryz.sizeOf49 rfl rfl (by rfl) (by rfl) ?_)
  refine c_nil ?_
  refine c_seq ?_
  refine c_region ?_
  refine seqq (o_y (y_move rfl) rfl ?_)
  refine seqq (o_y (y_move rfl) rfl ?_)
  refine seqq (o_y (y_binZ (v := .int .i64 2) rfl rfl (fun _ => by rfl)) rfl ?_)
  refine seqq (o_y (y_binZ (v := .int .i64 3) rfl rfl (fun _ => by rfl)) rfl ?_)
  refine seqq (o_y (y_binZ (v := .bool true) rfl rfl (fun _ => by rfl)) rfl ?_)
  refine seqq (o_y (y_move rfl) rfl ?_)
  refine seqq (guard_true rfl rfl (o_y (y_move rfl) rfl ?_))
  refine seqq (guard_true rfl rfl (o_y (y_gtrZ rfl rfl) rfl ?_))
  refine j_re 50 rfl (decF (by omega)) ?_
  refine seqq (o_y (y_pick_t rfl rfl) rfl ?_)
  refine c_nil ?_
  refine c_condF rfl ?_
  refine c_skip ?_
  refine c_region ?_
  refine seqq (o_y (y_move rfl) rfl ?_)
  refine seqq (o_y (y_binZ (v := .int .i64 1) rfl rfl (fun _ => by rfl)) rfl ?_)
  refine seqq (o_y (y_assign rfl) rfl ?_)
  refine c_nil ?_
  refine c_round ?_
  refine c_seq ?_
  refine c_seq ?_
  refine c_region ?_
  refine seqq (o_y (y_move rfl) rfl ?_)
  refine seqq (o_y (y_move rfl) rfl ?_)
  refine seqq (o_y (y_binZ (v := .int .i64 3) rfl rfl (fun _ => by rfl)) rfl ?_)
  refine seqq (o_y (y_binZ (v := .bool true) rfl rfl (fun _ => by rfl)) rfl ?_)
  refine c_nil ?_
  refine c_condT rfl ?_
  refine c_skip ?_
  refine c_seq ?_
  refine c_block ?_
  refine c_seq ?_
  refine c_region ?_
  refine seqq (o_y (y_move rfl) rfl ?_)
  refine seqq (o_y (y_move rfl) rfl ?_)
  refine seqq (o_y (y_move rfl) rfl ?_)
  refine seqq (o_y (y_binZ (v := .int .i64 3) rfl rfl (fun _ => by rfl)) rfl ?_)
  refine seqq (o_y (y_indexAddrA Tryz.runUnderlying51 Tryz.sizeOf49 rfl rfl (by decide)) rfl ?_)
  refine seqq (o_y (l1 Tryz.isAgg49 rfl (by rfl)) rfl ?_)
  refine seqq (o_y (y_move rfl) rfl ?_)
  refine seqq (o_y (y_shrB UK.u64 rfl rfl) rfl ?_)
  refine seqq (o_y (y_indexAddrA Tryz.runUnderlying51 Tryz.sizeOf49 rfl rfl (by decide)) rfl ?_)
  refine seqq (st1 (h1 := rfl) Tryz.sizeOf49 rfl rfl (by rfl) (by rfl) ?_)
  refine c_nil ?_
  refine c_seq ?_
  refine c_region ?_
  refine seqq (o_y (y_move rfl) rfl ?_)
  refine seqq (o_y (y_move rfl) rfl ?_)
  refine seqq (o_y (y_binZ (v := .int .i64 3) rfl rfl (fun _ => by rfl)) rfl ?_)
  refine seqq (o_y (y_binZ (v := .int .i64 4) rfl rfl (fun _ => by rfl)) rfl ?_)
  refine seqq (o_y (y_binZ (v := .bool false) rfl rfl (fun _ => by rfl)) rfl ?_)
  refine seqq (o_y (y_move rfl) rfl ?_)
  refine seqq (guard_false (c := false) rfl rfl rfl rfl ?_)
  refine seqq (guard_false (c := false) rfl rfl rfl rfl ?_)
  refine seqq (o_y (y_pick_f rfl rfl) rfl ?_)
  refine c_nil ?_
  refine c_condF rfl ?_
  refine c_skip ?_
  refine c_region ?_
  refine seqq (o_y (y_move rfl) rfl ?_)
  refine seqq (o_y (y_binZ (v := .int .i64 2) rfl rfl (fun _ => by rfl)) rfl ?_)
  refine seqq (o_y (y_assign rfl) rfl ?_)
  refine c_nil ?_
  refine c_round ?_
  refine c_seq ?_
  refine c_seq ?_
  refine c_region ?_
  refine seqq (o_y (y_move rfl) rfl ?_)
  refine seqq (o_y (y_move rfl) rfl ?_)
  refine seqq (o_y (y_binZ (v := .int .i64 4) rfl rfl (fun _ => by rfl)) rfl ?_)
  refine seqq (o_y (y_binZ (v := .bool false) rfl rfl (fun _ => by rfl)) rfl ?_)
  refine c_nil ?_
  refine c_condF rfl ?_
  refine c_exit ?_
  refine c_seq ?_
  refine c_region ?_
  refine seqq (o_y (lN Tryz.isAgg51 Tryz.sizeOf51 rfl (by rfl)) rfl ?_)
  refine seqq (stN Tryz.sizeOf51 rfl rfl (by rfl) rfl (by rfl) ?_)
  refine c_nil ?_
  refine c_ret ?_
  refine c_done1 Tryz.results113 (rN Tryz.isAgg51 Tryz.sizeOf51 rfl (by rfl)) (fun w hS => ?_)
  exact ⟨rfl, hS.none⟩

theorem wide_Right_2_1 (a b c d : BitVec 64) (r : Nat) (hr : r < 64) (h0 : 0 < r) : Pure Tryz.prog 113 [vagg (wide a b c d), vI ((128 + r : Nat) : Int)] (vagg (wide ((c >>> r) ||| (d <<< (64 - r))) (d >>> r) 0#64 0#64)) := by
  intro w
  refine begin0 Tryz.func113 rfl Tryz.ntmps113 rfl ?_
  refine c_seq ?_
  refine c_region ?_
  refine seqq (o_box (T := 51) rfl (IsP.agg).cells rfl (fun b2 => ?_))
  refine seqq (o_alloc (ps := [P1 (bv .u64 0#64), P1 (bv .u64 0#64), P1 (bv .u64 0#64), P1 (bv .u64 0#64)]) Tryz.zeroValue51 (by kernel_rfl) rfl (fun b4 => ?_))
  refine c_nil ?_
  refine c_seq ?_
  refine c_block ?_
  refine c_seq ?_
  refine c_region ?_
  refine seqq (o_y (y_move rfl) rfl ?_)
  refine seqq (o_y (y_leqZ rfl rfl) rfl ?_)
  refine j_re 11 rfl (decF (by omega)) ?_
  refine seqq (o_y (y_move rfl) rfl ?_)
  refine seqq (guard_true rfl rfl (o_y (y_move rfl) rfl ?_))
  refine seqq (guard_true rfl rfl (o_y (y_geqZ rfl rfl) rfl ?_))
  refine j_re 14 rfl (decF (by omega)) ?_
  refine seqq (o_y (y_pick_f rfl rfl) rfl ?_)
  refine seqq (o_y (y_assign rfl) rfl ?_)
  refine c_nil ?_
  refine c_condF rfl ?_
  refine c_seq ?_
  refine c_region ?_
  refine seqq (o_y (y_move rfl) rfl ?_)
  refine seqq (o_y (y_lssZ rfl rfl) rfl ?_)
  refine j_re 19 rfl (decF (by omega)) ?_
  refine seqq (o_y (y_assign rfl) rfl ?_)
  refine c_nil ?_
  refine c_condF rfl ?_
  refine c_skip ?_
  refine c_seq ?_
  refine c_region ?_
  refine seqq (o_alloc (ps := [P1 (bv .u64 0#64), P1 (bv .u64 0#64), P1 (bv .u64 0#64), P1 (bv .u64 0#64)]) Tryz.zeroValue51 (by kernel_rfl) rfl (fun b5 => ?_))
  refine c_nil ?_
  refine c_seq ?_
  refine c_region ?_
  refine seqq (o_y (y_move rfl) rfl ?_)
  refine seqq (o_y (y_quoI rfl rfl (by omega)) rfl ?_)
  refine j_re 25 rfl (show vI (((128 + r : Nat) : Int) / 64) = vI 2 from by congr 1; omega) ?_
  refine seqq (o_y (y_move rfl) rfl ?_)
  refine seqq (o_y (y_remI rfl rfl (by omega)) rfl ?_)
  refine j_re 27 rfl (show vI (((128 + r : Nat) : Int) % 64) = vI ((r : Nat) : Int) from by congr 1; omega) ?_
  refine seqq (o_y (y_assign rfl) rfl ?_)
  refine seqq (o_y (y_assign rfl) rfl ?_)
  refine c_nil ?_
  refine c_seq ?_
  refine c_seq ?_
  refine c_region ?_
  refine seqq (o_y (y_assign rfl) rfl ?_)
  refine c_nil ?_
  refine c_block ?_
  refine c_loop 5 ?_
  refine c_round ?_
  refine c_seq ?_
  refine c_seq ?_
  refine c_region ?_
  refine seqq (o_y (y_move rfl) rfl ?_)
  refine seqq (o_y (y_move rfl) rfl ?_)
  refine seqq (o_y (y_binZ (v := .int .i64 2) rfl rfl (fun _ => by rfl)) rfl ?_)
  refine seqq (o_y (y_binZ (v := .bool true) rfl rfl (fun _ => by rfl)) rfl ?_)
  refine c_nil ?_
  refine c_condT rfl ?_
  refine c_skip ?_
  refine c_seq ?_
  refine c_block ?_
  refine c_seq ?_
  refine c_region ?_
  refine seqq (o_y (y_move rfl) rfl ?_)
  refine seqq (o_y (y_move rfl) rfl ?_)
  refine seqq (o_y (y_move rfl) rfl ?_)
  refine seqq (o_y (y_binZ (v := .int .i64 2) rfl rfl (fun _ => by rfl)) rfl ?_)
  refine seqq (o_y (y_indexAddrA Tryz.runUnderlying51 Tryz.sizeOf49 rfl rfl (by decide)) rfl ?_)
  refine seqq (o_y (l1 Tryz.isAgg49 rfl (by rfl)) rfl ?_)
  refine seqq (o_y (y_move rfl) rfl ?_)
  refine seqq (o_y (y_shrB UK.u64 rfl rfl) rfl ?_)
  refine seqq (o_y (y_indexAddrA Tryz.runUnderlying51 Tryz.sizeOf49 rfl rfl (by decide)) rfl ?_)
  refine seqq (st1 (h1 := rfl) Tryz.sizeOf49 rfl rfl (by rfl) (by rfl) ?_)
  refine c_nil ?_
  refine c_seq ?_
  refine c_region ?_
  refine seqq (o_y (y_move rfl) rfl ?_)
  refine seqq (o_y (y_move rfl) rfl ?_)
  refine seqq (o_y (y_binZ (v := .int .i64 2) rfl rfl (fun _ => by rfl)) rfl ?_)
  refine seqq (o_y (y_binZ (v := .int .i64 3) rfl rfl (fun _ => by rfl)) rfl ?_)
  refine seqq (o_y (y_binZ (v := .bool true) rfl rfl (fun _ => by rfl)) rfl ?_)
  refine seqq (o_y (y_move rfl) rfl ?_)
  refine seqq (guard_true rfl rfl (o_y (y_move rfl) rfl ?_))
  refine seqq (guard_true rfl rfl (o_y (y_gtrZ rfl rfl) rfl ?_))
  refine j_re 50 rfl (decT (by omega)) ?_
  refine seqq (o_y (y_pick_t rfl rfl) rfl ?_)
  refine c_nil ?_
  refine c_condT rfl ?_
  refine d_reg 14 mixed rfl ?_
  refine d_y (i := 0) (k' := 1) rfl (by kernel_rfl) (y_move rfl) rfl ?_
  refine d_y (i := 1) (k' := 3) rfl (by kernel_rfl) (y_indexAddrA Tryz.runUnderlying51 Tryz.sizeOf49 rfl rfl (by decide)) rfl ?_
  refine d_s (i := 2) (k' := 7) rfl (by kernel_rfl) (by kernel_rfl) (l1 Tryz.isAgg49 rfl (by rfl)) hss rfl ?_
  refine d_y (i := 3) (k' := 15) rfl (by kernel_rfl) (y_move rfl) rfl ?_
  refine d_y (i := 4) (k' := 31) rfl (by kernel_rfl) (y_move rfl) rfl ?_
  refine d_y (i := 5) (k' := 63) rfl (by kernel_rfl) (y_binZ (v := .int .i64 2) rfl rfl (fun _ => by rfl)) rfl ?_
  refine d_y (i := 6) (k' := 127) rfl (by kernel_rfl) (y_binZ (v := .int .i64 3) rfl rfl (fun _ => by rfl)) rfl ?_
  refine d_y (i := 7) (k' := 255) rfl (by kernel_rfl) (y_indexAddrA Tryz.runUnderlying51 Tryz.sizeOf49 rfl rfl (by decide)) rfl ?_
  refine d_s (i := 8) (k' := 511) rfl (by kernel_rfl) (by kernel_rfl) (l1 Tryz.isAgg49 rfl (by rfl)) hss rfl ?_
  refine d_y (i := 9) (k' := 1023) rfl (by kernel_rfl) (y_move rfl) rfl ?_
  refine d_y (i := 10) (k' := 2047) rfl (by kernel_rfl) (y_subI rfl rfl (by omega)) rfl ?_
  refine j_re 62 rfl (show vI (64 - ((r : Nat) : Int)) = vI ((64 - r : Nat) : Int) from by congr 1; omega) ?_
  refine d_y (i := 11) (k' := 4095) rfl (by kernel_rfl) (y_shlB UK.u64 rfl rfl) rfl ?_
  refine d_y (i := 12) (k' := 8191) rfl (by kernel_rfl) (y_orB UK.u64 rfl rfl) rfl ?_
  refine d_y (i := 13) (k' := 16383) rfl (by kernel_rfl) (y_indexAddrA Tryz.runUnderlying51 Tryz.sizeOf49 rfl rfl (by decide)) rfl ?_
  refine d_e (i := 14) (k' := 32767) rfl (by kernel_rfl) (st1 (h1 := rfl) Tryz.sizeOf49 rfl rfl (by rfl) (by rfl) ( d_past rfl ?_))
  refine d_end (by kernel_rfl) ?_
  refine c_region ?_
  refine seqq (o_y (y_move rfl) rfl ?_)
  refine seqq (o_y (y_binZ (v := .int .i64 1) rfl rfl (fun _ => by rfl)) rfl ?_)
  refine seqq (o_y (y_assign rfl) rfl ?_)
  refine c_nil ?_
  refine c_round ?_
  refine c_seq ?_
  refine c_seq ?_
  refine c_region ?_
  refine seqq (o_y (y_move rfl) rfl ?_)
  refine seqq (o_y (y_move rfl) rfl ?_)
  refine seqq (o_y (y_binZ (v := .int .i64 3) rfl rfl (fun _ => by rfl)) rfl ?_)
  refine seqq (o_y (y_binZ (v := .bool true) rfl rfl (fun _ => by rfl)) rfl ?_)
  refine c_nil ?_
  refine c_condT rfl ?_
  refine c_skip ?_
  refine c_seq ?_
  refine c_block ?_
  refine c_seq ?_
  refine c_region ?_
  refine seqq (o_y (y_move rfl) rfl ?_)
  refine seqq (o_y (y_move rfl) rfl ?_)
  refine seqq (o_y (y_move rfl) rfl ?_)
  refine seqq (o_y (y_binZ (v := .int .i64 3) rfl rfl (fun _ => by rfl)) rfl ?_)
  refine seqq (o_y (y_indexAddrA Tryz.runUnderlying51 Tryz.sizeOf49 rfl rfl (by decide)) rfl ?_)
  refine seqq (o_y (l1 Tryz.isAgg49 rfl (by rfl)) rfl ?_)
  refine seqq (o_y (y_move rfl) rfl ?_)
  refine seqq (o_y (y_shrB UK.u64 rfl rfl) rfl ?_)
  refine seqq (o_y (y_indexAddrA Tryz.runUnderlying51 Tryz.sizeOf49 rfl rfl (by decide)) rfl ?_)
  refine seqq (st1 (h1 := rfl) Tryz.sizeOf49 rfl rfl (by rfl) (by rfl) ?_)
  refine c_nil ?_
  refine c_seq ?_
  refine c_region ?_
  refine seqq (o_y (y_move rfl) rfl ?_)
  refine seqq (o_y (y_move rfl) rfl ?_)
  refine seqq (o_y (y_binZ (v := .int .i64 3) rfl rfl (fun _ => by rfl)) rfl ?_)
  refine seqq (o_y (y_binZ (v := .int .i64 4) rfl rfl (fun _ => by rfl)) rfl ?_)
  refine seqq (o_y (y_binZ (v := .bool false) rfl rfl (fun _ => by rfl)) rfl ?_)
  refine seqq (o_y (y_move rfl) rfl ?_)
  refine seqq (guard_false (c := false) rfl rfl rfl rfl ?_)
  refine seqq (guard_false (c := false) rfl rfl rfl rfl ?_)
  refine seqq (o_y (y_pick_f rfl rfl) rfl ?_)
  refine c_nil ?_
  refine c_condF rfl ?_
  refine c_skip ?_
  refine c_region ?_
  refine seqq (o_y (y_move rfl) rfl ?_)
  refine seqq (o_y (y_binZ (v := .int .i64 2) rfl rfl (fun _ => by rfl)) rfl ?_)
  refine seqq (o_y (y_assign rfl) rfl ?_)
  refine c_nil ?_
  refine c_round ?_
  refine c_seq ?_
  refine c_seq ?_
  refine c_region ?_
  refine seqq (o_y (y_move rfl) rfl ?_)
  refine seqq (o_y (y_move rfl) rfl ?_)
  refine seqq (o_y (y_binZ (v := .int .i64 4) rfl rfl (fun _ => by rfl)) rfl ?_)
  refine seqq (o_y (y_binZ (v := .bool false) rfl rfl (fun _ => by rfl)) rfl ?_)
  refine c_nil ?_
  refine c_condF rfl ?_
  refine c_exit ?_
  refine c_seq ?_
  refine c_region ?_
  refine seqq (o_y (lN Tryz.isAgg51 Tryz.sizeOf51 rfl (by rfl)) rfl ?_)
  refine seqq (stN Tryz.sizeOf51 rfl rfl (by rfl) rfl (by rfl) ?_)
  refine c_nil ?_
  refine c_ret ?_
  refine c_done1 Tryz.results113 (rN Tryz.isAgg51 Tryz.sizeOf51 rfl (by rfl)) (fun w hS => ?_)
  exact ⟨rfl, hS.none⟩

theorem wide_Right_3_0 (a b c d : BitVec 64) (r : Nat) (hr : r < 64) (h0 : ¬ 0 < r) : Pure Tryz.prog 113 [vagg (wide a b c d), vI ((192 + r : Nat) : Int)] (vagg (wide (d >>> r) 0#64 0#64 0#64)) := by
  intro w
  refine begin0 Tryz.func113 rfl Tryz.ntmps113 rfl ?_
  refine c_seq ?_
  refine c_region ?_
  refine seqq (o_box (T := 51) rfl (IsP.agg).cells rfl (fun b2 => ?_))
  refine seqq (o_alloc (ps := [P1 (bv .u64 0#64), P1 (bv .u64 0#64), P1 (bv .u64 0#64), P1 (bv .u64 0#64)]) Tryz.zeroValue51 (by kernel_rfl) rfl (fun b4 => ?_))
  refine c_nil ?_
  refine c_seq ?_
  refine c_block ?_
  refine c_seq ?_
  refine c_region ?_
  refine seqq (o_y (y_move rfl) rfl ?_)
  refine seqq (o_y (y_leqZ rfl rfl) rfl ?_)
  refine j_re 11 rfl (decF (by omega)) ?_
  refine seqq (o_y (y_move rfl) rfl ?_)
  refine seqq (guard_true rfl rfl (o_y (y_move rfl) rfl ?_))
  refine seqq (guard_true rfl rfl (o_y (y_geqZ rfl rfl) rfl ?_))
  refine j_re 14 rfl (decF (by omega)) ?_
  refine seqq (o_y (y_pick_f rfl rfl) rfl ?_)
  refine seqq (o_y (y_assign rfl) rfl ?_)
  refine c_nil ?_
  refine c_condF rfl ?_
  refine c_seq ?_
  refine c_region ?_
  refine seqq (o_y (y_move rfl) rfl ?_)
  refine seqq (o_y (y_lssZ rfl rfl) rfl ?_)
  refine j_re 19 rfl (decF (by omega)) ?_
  refine seqq (o_y (y_assign rfl) rfl ?_)
  refine c_nil ?_
  refine c_condF rfl ?_
  refine c_skip ?_
  refine c_seq ?_
  refine c_region ?_
  refine seqq (o_alloc (ps := [P1 (bv .u64 0#64), P1 (bv .u64 0#64), P1 (bv .u64 0#64), P1 (bv .u64 0#64)]) Tryz.zeroValue51 (by kernel_rfl) rfl (fun b5 => ?_))
  refine c_nil ?_
  refine c_seq ?_
  refine c_region ?_
  refine seqq (o_y (y_move rfl) rfl ?_)
  refine seqq (o_y (y_quoI rfl rfl (by omega)) rfl ?_)
  refine j_re 25 rfl (show vI (((192 + r : Nat) : Int) / 64) = vI 3 from by congr 1; omega) ?_
  refine seqq (o_y (y_move rfl) rfl ?_)
  refine seqq (o_y (y_remI rfl rfl (by omega)) rfl ?_)
  refine j_re 27 rfl (show vI (((192 + r : Nat) : Int) % 64) = vI ((r : Nat) : Int) from by congr 1; omega) ?_
  refine seqq (o_y (y_assign rfl) rfl ?_)
  refine seqq (o_y (y_assign rfl) rfl ?_)
  refine c_nil ?_
  refine c_seq ?_
  refine c_seq ?_
  refine c_region ?_
  refine seqq (o_y (y_assign rfl) rfl ?_)
  refine c_nil ?_
  refine c_block ?_
  refine c_loop 5 ?_
  refine c_round ?_
  refine c_seq ?_
  refine c_seq ?_
  refine c_region ?_
  refine seqq (o_y (y_move rfl) rfl ?_)
  refine seqq (o_y (y_move rfl) rfl ?_)
  refine seqq (o_y (y_binZ (v := .int .i64 3) rfl rfl (fun _ => by rfl)) rfl ?_)
  refine seqq (o_y (y_binZ (v := .bool true) rfl rfl (fun _ => by rfl)) rfl ?_)
  refine c_nil ?_
  refine c_condT rfl ?_
  refine c_skip ?_
  refine c_seq ?_
  refine c_block ?_
  refine c_seq ?_
  refine c_region ?_
  refine seqq (o_y (y_move rfl) rfl ?_)
  refine seqq (o_y (y_move rfl) rfl ?_)
  refine seqq (o_y (y_move rfl) rfl ?_)
  refine seqq (o_y (y_binZ (v := .int .i64 3) rfl rfl (fun _ => by rfl)) rfl ?_)
  refine seqq (o_y (y_indexAddrA Tryz.runUnderlying51 Tryz.sizeOf49 rfl rfl (by decide)) rfl ?_)
  refine seqq (o_y (l1 Tryz.isAgg49 rfl (by rfl)) rfl ?_)
  refine seqq (o_y (y_move rfl) rfl ?_)
  refine seqq (o_y (y_shrB UK.u64 rfl rfl) rfl ?_)
  refine seqq (o_y (y_indexAddrA Tryz.runUnderlying51 Tryz.sizeOf49 rfl rfl (by decide)) rfl ?_)
  refine seqq (st1 (h1 := rfl) Tryz.sizeOf49 rfl rfl (by rfl) (by rfl) ?_)
  refine c_nil ?_
  refine c_seq ?_
  refine c_region ?_
  refine seqq (o_y (y_move rfl) rfl ?_)
  refine seqq (o_y (y_move rfl) rfl ?_)
  refine seqq (o_y (y_binZ (v := .int .i64 3) rfl rfl (fun _ => by rfl)) rfl ?_)
  refine seqq (o_y (y_binZ (v := .int .i64 4) rfl rfl (fun _ => by rfl)) rfl ?_)
  refine seqq (o_y (y_binZ (v := .bool false) rfl rfl (fun _ => by rfl)) rfl ?_)
  refine seqq (o_y (y_move rfl) rfl ?_)
  refine seqq (guard_false (c := false) rfl rfl rfl rfl ?_)
  refine seqq (guard_false (c := false) rfl rfl rfl rfl ?_)
  refine seqq (o_y (y_pick_f rfl rfl) rfl ?_)
  refine c_nil ?_
  refine c_condF rfl ?_
  refine c_skip ?_
  refine c_region ?_
  refine seqq (o_y (y_move rfl) rfl ?_)
  refine seqq (o_y (y_binZ (v := .int .i64 1) rfl rfl (fun _ => by rfl)) rfl ?_)
  refine seqq (o_y (y_assign rfl) rfl ?_)
  refine c_nil ?_
  refine c_round ?_
  refine c_seq ?_
  refine c_seq ?_
  refine c_region ?_
  refine seqq (o_y (y_move rfl) rfl ?_)
  refine seqq (o_y (y_move rfl) rfl ?_)
  refine seqq (o_y (y_binZ (v := .int .i64 4) rfl rfl (fun _ => by rfl)) rfl ?_)
  refine seqq (o_y (y_binZ (v := .bool false) rfl rfl (fun _ => by rfl)) rfl ?_)
  refine c_nil ?_
  refine c_condF rfl ?_
  refine c_exit ?_
  refine c_seq ?_
  refine c_region ?_
  refine seqq (o_y (lN Tryz.isAgg51 Tryz.sizeOf51 rfl (by rfl)) rfl ?_)
  refine seqq (stN Tryz.sizeOf51 rfl rfl (by rfl) rfl (by rfl) ?_)
  refine c_nil ?_
  refine c_ret ?_
  refine c_done1 Tryz.results113 (rN Tryz.isAgg51 Tryz.sizeOf51 rfl (by rfl)) (fun w hS => ?_)
  exact ⟨rfl, hS.none⟩

theorem wide_Right_3_1 (a b c d : BitVec 64) (r : Nat) (hr : r < 64) (h0 : 0 < r) : Pure Tryz.prog 113 [vagg (wide a b c d), vI ((192 + r : Nat) : Int)] (vagg (wide (d >>> r) 0#64 0#64 0#64)) := by
  intro w
  refine begin0 Tryz.func113 rfl Tryz.ntmps113 rfl ?_
  refine c_seq ?_
  refine c_region ?_
  refine seqq (o_box (T := 51) rfl (IsP.agg).cells rfl (fun b2 => ?_))
  refine seqq (o_alloc (ps := [P1 (bv .u64 0#64), P1 (bv .u64 0#64), P1 (bv .u64 0#64), P1 (bv .u64 0#64)]) Tryz.zeroValue51 (by kernel_rfl) rfl (fun b4 => ?_))
  refine c_nil ?_
  refine c_seq ?_
  refine c_block ?_
  refine c_seq ?_
  refine c_region ?_
  refine seqq (o_y (y_move rfl) rfl ?_)
  refine seqq (o_y (y_leqZ rfl rfl) rfl ?_)
  refine j_re 11 rfl (decF (by omega)) ?_
  refine seqq (o_y (y_move rfl) rfl ?_)
  refine seqq (guard_true rfl rfl (o_y (y_move rfl) rfl ?_))
  refine seqq (guard_true rfl rfl (o_y (y_geqZ rfl rfl) rfl ?_))
  refine j_re 14 rfl (decF (by omega)) ?_
  refine seqq (o_y (y_pick_f rfl rfl) rfl ?_)
  refine seqq (o_y (y_assign rfl) rfl ?_)
  refine c_nil ?_
  refine c_condF rfl ?_
  refine c_seq ?_
  refine c_region ?_
  refine seqq (o_y (y_move rfl) rfl ?_)
  refine seqq (o_y (y_lssZ rfl rfl) rfl ?_)
  refine j_re 19 rfl (decF (by omega)) ?_
  refine seqq (o_y (y_assign rfl) rfl ?_)
  refine c_nil ?_
  refine c_condF rfl ?_
  refine c_skip ?_
  refine c_seq ?_
  refine c_region ?_
  refine seqq (o_alloc (ps := [P1 (bv .u64 0#64), P1 (bv .u64 0#64), P1 (bv .u64 0#64), P1 (bv .u64 0#64)]) Tryz.zeroValue51 (by kernel_rfl) rfl (fun b5 => ?_))
  refine c_nil ?_
  refine c_seq ?_
  refine c_region ?_
  refine seqq (o_y (y_move rfl) rfl ?_)
  refine seqq (o_y (y_quoI rfl rfl (by omega)) rfl ?_)
  refine j_re 25 rfl (show vI (((192 + r : Nat) : Int) / 64) = vI 3 from by congr 1; omega) ?_
  refine seqq (o_y (y_move rfl) rfl ?_)
  refine seqq (o_y (y_remI rfl rfl (by omega)) rfl ?_)
  refine j_re 27 rfl (show vI (((192 + r : Nat) : Int) % 64) = vI ((r : Nat) : Int) from by congr 1; omega) ?_
  refine seqq (o_y (y_assign rfl) rfl ?_)
  refine seqq (o_y (y_assign rfl) rfl ?_)
  refine c_nil ?_
  refine c_seq ?_
  refine c_seq ?_
  refine c_region ?_
  refine seqq (o_y (y_assign rfl) rfl ?_)
  refine c_nil ?_
  refine c_block ?_
  refine c_loop 5 ?_
  refine c_round ?_
  refine c_seq ?_
  refine c_seq ?_
  refine c_region ?_
  refine seqq (o_y (y_move rfl) rfl ?_)
  refine seqq (o_y (y_move rfl) rfl ?_)
  refine seqq (o_y (y_binZ (v := .int .i64 3) rfl rfl (fun _ => by rfl)) rfl ?_)
  refine seqq (o_y (y_binZ (v := .bool true) rfl rfl (fun _ => by rfl)) rfl ?_)
  refine c_nil ?_
  refine c_condT rfl ?_
  refine c_skip ?_
  refine c_seq ?_
  refine c_block ?_
  refine c_seq ?_
  refine c_region ?_
  refine seqq (o_y (y_move rfl) rfl ?_)
  refine seqq (o_y (y_move rfl) rfl ?_)
  refine seqq (o_y (y_move rfl) rfl ?_)
  refine seqq (o_y (y_binZ (v := .int .i64 3) rfl rfl (fun _ => by rfl)) rfl ?_)
  refine seqq (o_y (y_indexAddrA Tryz.runUnderlying51 Tryz.sizeOf49 rfl rfl (by decide)) rfl ?_)
  refine seqq (o_y (l1 Tryz.isAgg49 rfl (by rfl)) rfl ?_)
  refine seqq (o_y (y_move rfl) rfl ?_)
  refine seqq (o_y (y_shrB UK.u64 rfl rfl) rfl ?_)
  refine seqq (o_y (y_indexAddrA Tryz.runUnderlying51 Tryz.sizeOf49 rfl rfl (by decide)) rfl ?_)
  refine seqq (st1 (h1 := rfl) Tryz.sizeOf49 rfl rfl (by rfl) (by rfl) ?_)
  refine c_nil ?_
  refine c_seq ?_
  refine c_region ?_
  refine seqq (o_y (y_move rfl) rfl ?_)
  refine seqq (o_y (y_move rfl) rfl ?_)
  refine seqq (o_y (y_binZ (v := .int .i64 3) rfl rfl (fun _ => by rfl)) rfl ?_)
  refine seqq (o_y (y_binZ (v := .int .i64 4) rfl rfl (fun _ => by rfl)) rfl ?_)
  refine seqq (o_y (y_binZ (v := .bool false) rfl rfl (fun _ => by rfl)) rfl ?_)
  refine seqq (o_y (y_move rfl) rfl ?_)
  refine seqq (guard_false (c := false) rfl rfl rfl rfl ?_)
  refine seqq (guard_false (c := false) rfl rfl rfl rfl ?_)
  refine seqq (o_y (y_pick_f rfl rfl) rfl ?_)
  refine c_nil ?_
  refine c_condF rfl ?_
  refine c_skip ?_
  refine c_region ?_
  refine seqq (o_y (y_move rfl) rfl ?_)
  refine seqq (o_y (y_binZ (v := .int .i64 1) rfl rfl (fun _ => by rfl)) rfl ?_)
  refine seqq (o_y (y_assign rfl) rfl ?_)
  refine c_nil ?_
  refine c_round ?_
  refine c_seq ?_
  refine c_seq ?_
  refine c_region ?_
  refine seqq (o_y (y_move rfl) rfl ?_)
  refine seqq (o_y (y_move rfl) rfl ?_)
  refine seqq (o_y (y_binZ (v := .int .i64 4) rfl rfl (fun _ => by rfl)) rfl ?_)
  refine seqq (o_y (y_binZ (v := .bool false) rfl rfl (fun _ => by rfl)) rfl ?_)
  refine c_nil ?_
  refine c_condF rfl ?_
  refine c_exit ?_
  refine c_seq ?_
  refine c_region ?_
  refine seqq (o_y (lN Tryz.isAgg51 Tryz.sizeOf51 rfl (by rfl)) rfl ?_)
  refine seqq (stN Tryz.sizeOf51 rfl rfl (by rfl) rfl (by rfl) ?_)
  refine c_nil ?_
  refine c_ret ?_
  refine c_done1 Tryz.results113 (rN Tryz.isAgg51 Tryz.sizeOf51 rfl (by rfl)) (fun w hS => ?_)
  exact ⟨rfl, hS.none⟩

theorem wide_Left_0_0 (a b c d : BitVec 64) (r : Nat) (hr : r < 64) (h0 : ¬ 0 < r) : Pure Tryz.prog 89 [vagg (wide a b c d), vI ((0 + r : Nat) : Int)] (vagg (wide (a <<< r) (b <<< r) (c <<< r) (d <<< r))) := by
  intro w
  refine begin0 Tryz.func89 rfl Tryz.ntmps89 rfl ?_
  refine c_seq ?_
  refine c_region ?_
  refine seqq (o_box (T := 51) rfl (IsP.agg).cells rfl (fun b2 => ?_))
  refine seqq (o_alloc (ps := [P1 (bv .u64 0#64), P1 (bv .u64 0#64), P1 (bv .u64 0#64), P1 (bv .u64 0#64)]) Tryz.zeroValue51 (by kernel_rfl) rfl (fun b4 => ?_))
  refine c_nil ?_
  refine c_seq ?_
  refine c_block ?_
  refine c_seq ?_
  refine c_region ?_
  refine seqq (o_y (y_move rfl) rfl ?_)
  refine seqq (o_y (y_leqZ rfl rfl) rfl ?_)
  refine j_re 11 rfl (decF (by omega)) ?_
  refine seqq (o_y (y_move rfl) rfl ?_)
  refine seqq (guard_true rfl rfl (o_y (y_move rfl) rfl ?_))
  refine seqq (guard_true rfl rfl (o_y (y_geqZ rfl rfl) rfl ?_))
  refine j_re 14 rfl (decF (by omega)) ?_
  refine seqq (o_y (y_pick_f rfl rfl) rfl ?_)
  refine seqq (o_y (y_assign rfl) rfl ?_)
  refine c_nil ?_
  refine c_condF rfl ?_
  refine c_seq ?_
  refine c_region ?_
  refine seqq (o_y (y_move rfl) rfl ?_)
  refine seqq (o_y (y_lssZ rfl rfl) rfl ?_)
  refine j_re 19 rfl (decF (by omega)) ?_
  refine seqq (o_y (y_assign rfl) rfl ?_)
  refine c_nil ?_
  refine c_condF rfl ?_
  refine c_skip ?_
  refine c_seq ?_
  refine c_region ?_
  refine seqq (o_alloc (ps := [P1 (bv .u64 0#64), P1 (bv .u64 0#64), P1 (bv .u64 0#64), P1 (bv .u64 0#64)]) Tryz.zeroValue51 (by kernel_rfl) rfl (fun b5 => ?_))
  refine c_nil ?_
  refine c_seq ?_
  refine c_region ?_
  refine seqq (o_y (y_move rfl) rfl ?_)
  refine seqq (o_y (y_quoI rfl rfl (by omega)) rfl ?_)
  refine j_re 25 rfl (show vI (((0 + r : Nat) : Int) / 64) = vI 0 from by congr 1; omega) ?_
  refine seqq (o_y (y_move rfl) rfl ?_)
  refine seqq (o_y (y_remI rfl rfl (by omega)) rfl ?_)
  refine j_re 27 rfl (show vI (((0 + r : Nat) : Int) % 64) = vI ((r : Nat) : Int) from by congr 1; omega) ?_
  refine seqq (o_y (y_assign rfl) rfl ?_)
  refine seqq (o_y (y_assign rfl) rfl ?_)
  refine c_nil ?_
  refine c_seq ?_
  refine c_seq ?_
  refine c_region ?_
  refine seqq (o_y (y_move rfl) rfl ?_)
  refine seqq (o_y (y_assign rfl) rfl ?_)
  refine c_nil ?_
  refine c_block ?_
  refine c_loop 5 ?_
  refine c_round ?_
  refine c_seq ?_
  refine c_seq ?_
  refine c_region ?_
  refine seqq (o_y (y_move rfl) rfl ?_)
  refine seqq (o_y (y_binZ (v := .bool true) rfl rfl (fun _ => by rfl)) rfl ?_)
  refine c_nil ?_
  refine c_condT rfl ?_
  refine c_skip ?_
  refine c_seq ?_
  refine c_block ?_
  refine c_seq ?_
  refine c_region ?_
  refine seqq (o_y (y_move rfl) rfl ?_)
  refine seqq (o_y (y_move rfl) rfl ?_)
  refine seqq (o_y (y_move rfl) rfl ?_)
  refine seqq (o_y (y_binZ (v := .int .i64 0) rfl rfl (fun _ => by rfl)) rfl ?_)
  refine seqq (o_y (y_indexAddrA Tryz.runUnderlying51 Tryz.sizeOf49 rfl rfl (by decide)) rfl ?_)
  refine seqq (o_y (l1 Tryz.isAgg49 rfl (by rfl)) rfl ?_)
  refine seqq (o_y (y_move rfl) rfl ?_)
  refine seqq (o_y (y_shlB UK.u64 rfl rfl) rfl ?_)
  refine seqq (o_y (y_indexAddrA Tryz.runUnderlying51 Tryz.sizeOf49 rfl rfl (by decide)) rfl ?_)
  refine seqq (st1 (h1 := rfl) Tryz.sizeOf49 rfl rfl (by rfl) (by rfl) ?_)
  refine c_nil ?_
  refine c_seq ?_
  refine c_region ?_
  refine seqq (o_y (y_move rfl) rfl ?_)
  refine seqq (o_y (y_move rfl) rfl ?_)
  refine seqq (o_y (y_binZ (v := .bool false) rfl rfl (fun _ => by rfl)) rfl ?_)
  refine seqq (o_y (y_move rfl) rfl ?_)
  refine seqq (guard_false (c := false) rfl rfl rfl rfl ?_)
  refine seqq (guard_false (c := false) rfl rfl rfl rfl ?_)
  refine seqq (o_y (y_pick_f rfl rfl) rfl ?_)
  refine c_nil ?_
  refine c_condF rfl ?_
  refine c_skip ?_
  refine c_region ?_
  refine seqq (o_y (y_move rfl) rfl ?_)
  refine seqq (o_y (y_binZ (v := .int .i64 1) rfl rfl (fun _ => by rfl)) rfl ?_)
  refine seqq (o_y (y_assign rfl) rfl ?_)
  refine c_nil ?_
  refine c_round ?_
  refine c_seq ?_
  refine c_seq ?_
  refine c_region ?_
  refine seqq (o_y (y_move rfl) rfl ?_)
  refine seqq (o_y (y_binZ (v := .bool true) rfl rfl (fun _ => by rfl)) rfl ?_)
  refine c_nil ?_
  refine c_condT rfl ?_
  refine c_skip ?_
  refine c_seq ?_
  refine c_block ?_
  refine c_seq ?_
  refine c_region ?_
  refine seqq (o_y (y_move rfl) rfl ?_)
  refine seqq (o_y (y_move rfl) rfl ?_)
  refine seqq (o_y (y_move rfl) rfl ?_)
  refine seqq (o_y (y_binZ (v := .int .i64 1) rfl rfl (fun _ => by rfl)) rfl ?_)
  refine seqq (o_y (y_indexAddrA Tryz.runUnderlying51 Tryz.sizeOf49 rfl rfl (by decide)) rfl ?_)
  refine seqq (o_y (l1 Tryz.isAgg49 rfl (by rfl)) rfl ?_)
  refine seqq (o_y (y_move rfl) rfl ?_)
  refine seqq (o_y (y_shlB UK.u64 rfl rfl) rfl ?_)
  refine seqq (o_y (y_indexAddrA Tryz.runUnderlying51 Tryz.sizeOf49 rfl rfl (by decide)) rfl ?_)
  refine seqq (st1 (h1 := rfl) Tryz.sizeOf49 rfl rfl (by rfl) (by rfl) ?_)
  refine c_nil ?_
  refine c_seq ?_
  refine c_region ?_
  refine seqq (o_y (y_move rfl) rfl ?_)
  refine seqq (o_y (y_move rfl) rfl ?_)
  refine seqq (o_y (y_binZ (v := .bool true) rfl rfl (fun _ => by rfl)) rfl ?_)
  refine seqq (o_y (y_move rfl) rfl ?_)
  refine seqq (guard_true rfl rfl (o_y (y_move rfl) rfl ?_))
  refine seqq (guard_true rfl rfl (o_y (y_gtrZ rfl rfl) rfl ?_))
  refine j_re 47 rfl (decF (by omega)) ?_
  refine seqq (o_y (y_pick_t rfl rfl) rfl ?_)
  refine c_nil ?_
  refine c_condF rfl ?_
  refine c_skip ?_
  refine c_region ?_
  refine seqq (o_y (y_move rfl) rfl ?_)
  refine seqq (o_y (y_binZ (v := .int .i64 2) rfl rfl (fun _ => by rfl)) rfl ?_)
  refine seqq (o_y (y_assign rfl) rfl ?_)
  refine c_nil ?_
  refine c_round ?_
  refine c_seq ?_
  refine c_seq ?_
  refine c_region ?_
  refine seqq (o_y (y_move rfl) rfl ?_)
  refine seqq (o_y (y_binZ (v := .bool true) rfl rfl (fun _ => by rfl)) rfl ?_)
  refine c_nil ?_
  refine c_condT rfl ?_
  refine c_skip ?_
  refine c_seq ?_
  refine c_block ?_
  refine c_seq ?_
  refine c_region ?_
  refine seqq (o_y (y_move rfl) rfl ?_)
  refine seqq (o_y (y_move rfl) rfl ?_)
  refine seqq (o_y (y_move rfl) rfl ?_)
  refine seqq (o_y (y_binZ (v := .int .i64 2) rfl rfl (fun _ => by rfl)) rfl ?_)
  refine seqq (o_y (y_indexAddrA Tryz.runUnderlying51 Tryz.sizeOf49 rfl rfl (by decide)) rfl ?_)
  refine seqq (o_y (l1 Tryz.isAgg49 rfl (by rfl)) rfl ?_)
  refine seqq (o_y (y_move rfl) rfl ?_)
  refine seqq (o_y (y_shlB UK.u64 rfl rfl) rfl ?_)
  refine seqq (o_y (y_indexAddrA Tryz.runUnderlying51 Tryz.sizeOf49 rfl rfl (by decide)) rfl ?_)
  refine seqq (st1 (h1 := rfl) Tryz.sizeOf49 rfl rfl (by rfl) (by rfl) ?_)
  refine c_nil ?_
  refine c_seq ?_
  refine c_region ?_
  refine seqq (o_y (y_move rfl) rfl ?_)
  refine seqq (o_y (y_move rfl) rfl ?_)
  refine seqq (o_y (y_binZ (v := .bool true) rfl rfl (fun _ => by rfl)) rfl ?_)
  refine seqq (o_y (y_move rfl) rfl ?_)
  refine seqq (guard_true rfl rfl (o_y (y_move rfl) rfl ?_))
  refine seqq (guard_true rfl rfl (o_y (y_gtrZ rfl rfl) rfl ?_))
  refine j_re 47 rfl (decF (by omega)) ?_
  refine seqq (o_y (y_pick_t rfl rfl) rfl ?_)
  refine c_nil ?_
  refine c_condF rfl ?_
  refine c_skip ?_
  refine c_region ?_
  refine seqq (o_y (y_move rfl) rfl ?_)
  refine seqq (o_y (y_binZ (v := .int .i64 3) rfl rfl (fun _ => by rfl)) rfl ?_)
  refine seqq (o_y (y_assign rfl) rfl ?_)
  refine c_nil ?_
  refine c_round ?_
  refine c_seq ?_
  refine c_seq ?_
  refine c_region ?_
  refine seqq (o_y (y_move rfl) rfl ?_)
  refine seqq (o_y (y_binZ (v := .bool true) rfl rfl (fun _ => by rfl)) rfl ?_)
  refine c_nil ?_
  refine c_condT rfl ?_
  refine c_skip ?_
  refine c_seq ?_
  refine c_block ?_
  refine c_seq ?_
  refine c_region ?_
  refine seqq (o_y (y_move rfl) rfl ?_)
  refine seqq (o_y (y_move rfl) rfl ?_)
  refine seqq (o_y (y_move rfl) rfl ?_)
  refine seqq (o_y (y_binZ (v := .int .i64 3) rfl rfl (fun _ => by rfl)) rfl ?_)
  refine seqq (o_y (y_indexAddrA Tryz.runUnderlying51 Tryz.sizeOf49 rfl rfl (by decide)) rfl ?_)
  refine seqq (o_y (l1 Tryz.isAgg49 rfl (by rfl)) rfl ?_)
  refine seqq (o_y (y_move rfl) rfl ?_)
  refine seqq (o_y (y_shlB UK.u64 rfl rfl) rfl ?_)
  refine seqq (o_y (y_indexAddrA Tryz.runUnderlying51 Tryz.sizeOf49 rfl rfl (by decide)) rfl ?_)
  refine seqq (st1 (h1 := rfl) Tryz.sizeOf49 rfl rfl (by rfl) (by rfl) ?_)
  refine c_nil ?_
  refine c_seq ?_
  refine c_region ?_
  refine seqq (o_y (y_move rfl) rfl ?_)
  refine seqq (o_y (y_move rfl) rfl ?_)
  refine seqq (o_y (y_binZ (v := .bool true) rfl rfl (fun _ => by rfl)) rfl ?_)
  refine seqq (o_y (y_move rfl) rfl ?_)
  refine seqq (guard_true rfl rfl (o_y (y_move rfl) rfl ?_))
  refine seqq (guard_true rfl rfl (o_y (y_gtrZ rfl rfl) rfl ?_))
  refine j_re 47 rfl (decF (by omega)) ?_
  refine seqq (o_y (y_pick_t rfl rfl) rfl ?_)
  refine c_nil ?_
  refine c_condF rfl ?_
  refine c_skip ?_
  refine c_region ?_
  refine seqq (o_y (y_move rfl) rfl ?_)
  refine seqq (o_y (y_binZ (v := .int .i64 4) rfl rfl (fun _ => by rfl)) rfl ?_)
  refine seqq (o_y (y_assign rfl) rfl ?_)
  refine c_nil ?_
  refine c_round ?_
  refine c_seq ?_
  refine c_seq ?_
  refine c_region ?_
  refine seqq (o_y (y_move rfl) rfl ?_)
  refine seqq (o_y (y_binZ (v := .bool false) rfl rfl (fun _ => by rfl)) rfl ?_)
  refine c_nil ?_
  refine c_condF rfl ?_
  refine c_exit ?_
  refine c_seq ?_
  refine c_region ?_
  refine seqq (o_y (lN Tryz.isAgg51 Tryz.sizeOf51 rfl (by rfl)) rfl ?_)
  refine seqq (stN Tryz.sizeOf51 rfl rfl (by rfl) rfl (by rfl) ?_)
  refine c_nil ?_
  refine c_ret ?_
  refine c_done1 Tryz.results89 (rN Tryz.isAgg51 Tryz.sizeOf51 rfl (by rfl)) (fun w hS => ?_)
  exact ⟨rfl, hS.none⟩

theorem wide_Left_0_1 (a b c d : BitVec 64) (r : Nat) (hr : r < 64) (h0 : 0 < r) : Pure Tryz.prog 89 [vagg (wide a b c d), vI ((0 + r : Nat) : Int)] (vagg (wide (a <<< r) ((b <<< r) ||| (a >>> (64 - r))) ((c <<< r) ||| (b >>> (64 - r))) ((d <<< r) ||| (c >>> (64 - r))))) := by
  intro w
  refine begin0 Tryz.func89 rfl Tryz.ntmps89 rfl ?_
  refine c_seq ?_
  refine c_region ?_
  refine seqq (o_box (T := 51) rfl (IsP.agg).cells rfl (fun b2 => ?_))
  refine seqq (o_alloc (ps := [P1 (bv .u64 0#64), P1 (bv .u64 0#64), P1 (bv .u64 0#64), P1 (bv .u64 0#64)]) Tryz.zeroValue51 (by kernel_rfl) rfl (fun b4 => ?_))
  refine c_nil ?_
  refine c_seq ?_
  refine c_block ?_
  refine c_seq ?_
  refine c_region ?_
  refine seqq (o_y (y_move rfl) rfl ?_)
  refine seqq (o_y (y_leqZ rfl rfl) rfl ?_)
  refine j_re 11 rfl (decF (by omega)) ?_
  refine seqq (o_y (y_move rfl) rfl ?_)
  refine seqq (guard_true rfl rfl (o_y (y_move rfl) rfl ?_))
  refine seqq (guard_true rfl rfl (o_y (y_geqZ rfl rfl) rfl ?_))
  refine j_re 14 rfl (decF (by omega)) ?_
  refine seqq (o_y (y_pick_f rfl rfl) rfl ?_)
  refine seqq (o_y (y_assign rfl) rfl ?_)
  refine c_nil ?_
  refine c_condF rfl ?_
  refine c_seq ?_
  refine c_region ?_
  refine seqq (o_y (y_move rfl) rfl ?_)
  refine seqq (o_y (y_lssZ rfl rfl) rfl ?_)
  refine j_re 19 rfl (decF (by omega)) ?_
  refine seqq (o_y (y_assign rfl) rfl ?_)
  refine c_nil ?_
  refine c_condF rfl ?_
  refine c_skip ?_
  refine c_seq ?_
  refine c_region ?_
  refine seqq (o_alloc (ps := [P1 (bv .u64 0#64), P1 (bv .u64 0#64), P1 (bv .u64 0#64), P1 (bv .u64 0#64)]) Tryz.zeroValue51 (by kernel_rfl) rfl (fun b5 => ?_))
  refine c_nil ?_
  refine c_seq ?_
  refine c_region ?_
  refine seqq (o_y (y_move rfl) rfl ?_)
  refine seqq (o_y (y_quoI rfl rfl (by omega)) rfl ?_)
  refine j_re 25 rfl (show vI (((0 + r : Nat) : Int) / 64) = vI 0 from by congr 1; omega) ?_
  refine seqq (o_y (y_move rfl) rfl ?_)
  refine seqq (o_y (y_remI rfl rfl (by omega)) rfl ?_)
  refine j_re 27 rfl (show vI (((0 + r : Nat) : Int) % 64) = vI ((r : Nat) : Int) from by congr 1; omega) ?_
  refine seqq (o_y (y_assign rfl) rfl ?_)
  refine seqq (o_y (y_assign rfl) rfl ?_)
  refine c_nil ?_
  refine c_seq ?_
  refine c_seq ?_
  refine c_region ?_
  refine seqq (o_y (y_move rfl) rfl ?_)
  refine seqq (o_y (y_assign rfl) rfl ?_)
  refine c_nil ?_
  refine c_block ?_
  refine c_loop 5 ?_
  refine c_round ?_
  refine c_seq ?_
  refine c_seq ?_
  refine c_region ?_
  refine seqq (o_y (y_move rfl) rfl ?_)
  refine seqq (o_y (y_binZ (v := .bool true) rfl rfl (fun _ => by rfl)) rfl ?_)
  refine c_nil ?_
  refine c_condT rfl ?_
  refine c_skip ?_
  refine c_seq ?_
  refine c_block ?_
  refine c_seq ?_
  refine c_region ?_
  refine seqq (o_y (y_move rfl) rfl ?_)
  refine seqq (o_y (y_move rfl) rfl ?_)
  refine seqq (o_y (y_move rfl) rfl ?_)
  refine seqq (o_y (y_binZ (v := .int .i64 0) rfl rfl (fun _ => by rfl)) rfl ?_)
  refine seqq (o_y (y_indexAddrA Tryz.runUnderlying51 Tryz.sizeOf49 rfl rfl (by decide)) rfl ?_)
  refine seqq (o_y (l1 Tryz.isAgg49 rfl (by rfl)) rfl ?_)
  refine seqq (o_y (y_move rfl) rfl ?_)
  refine seqq (o_y (y_shlB UK.u64 rfl rfl) rfl ?_)
  refine seqq (o_y (y_indexAddrA Tryz.runUnderlying51 Tryz.sizeOf49 rfl rfl (by decide)) rfl ?_)
  refine seqq (st1 (h1 := rfl) Tryz.sizeOf49 rfl rfl (by rfl) (by rfl) ?_)
  refine c_nil ?_
  refine c_seq ?_
  refine c_region ?_
  refine seqq (o_y (y_move rfl) rfl ?_)
  refine seqq (o_y (y_move rfl) rfl ?_)
  refine seqq (o_y (y_binZ (v := .bool false) rfl rfl (fun _ => by rfl)) rfl ?_)
  refine seqq (o_y (y_move rfl) rfl ?_)
  refine seqq (guard_false (c := false) rfl rfl rfl rfl ?_)
  refine seqq (guard_false (c := false) rfl rfl rfl rfl ?_)
  refine seqq (o_y (y_pick_f rfl rfl) rfl ?_)
  refine c_nil ?_
  refine c_condF rfl ?_
  refine c_skip ?_
  refine c_region ?_
  refine seqq (o_y (y_move rfl) rfl ?_)
  refine seqq (o_y (y_binZ (v := .int .i64 1) rfl rfl (fun _ => by rfl)) rfl ?_)
  refine seqq (o_y (y_assign rfl) rfl ?_)
  refine c_nil ?_
  refine c_round ?_
  refine c_seq ?_
  refine c_seq ?_
  refine c_region ?_
  refine seqq (o_y (y_move rfl) rfl ?_)
  refine seqq (o_y (y_binZ (v := .bool true) rfl rfl (fun _ => by rfl)) rfl ?_)
  refine c_nil ?_
  refine c_condT rfl ?_
  refine c_skip ?_
  refine c_seq ?_
  refine c_block ?_
  refine c_seq ?_
  refine c_region ?_
  refine seqq (o_y (y_move rfl) rfl ?_)
  refine seqq (o_y (y_move rfl) rfl ?_)
  refine seqq (o_y (y_move rfl) rfl ?_)
  refine seqq (o_y (y_binZ (v := .int .i64 1) rfl rfl (fun _ => by rfl)) rfl ?_)
  refine seqq (o_y (y_indexAddrA Tryz.runUnderlying51 Tryz.sizeOf49 rfl rfl (by decide)) rfl ?_)
  refine seqq (o_y (l1 Tryz.isAgg49 rfl (by rfl)) rfl ?_)
  refine seqq (o_y (y_move rfl) rfl ?_)
  refine seqq (o_y (y_shlB UK.u64 rfl rfl) rfl ?_)
  refine seqq (o_y (y_indexAddrA Tryz.runUnderlying51 Tryz.sizeOf49 rfl rfl (by decide)) rfl ?_)
  refine seqq (st1 (h1 := rfl) Tryz.sizeOf49 rfl rfl (by rfl) (by rfl) ?_)
  refine c_nil ?_
  refine c_seq ?_
  refine c_region ?_
  refine seqq (o_y (y_move rfl) rfl ?_)
  refine seqq (o_y (y_move rfl) rfl ?_)
  refine seqq (o_y (y_binZ (v := .bool true) rfl rfl (fun _ => by rfl)) rfl ?_)
  refine seqq (o_y (y_move rfl) rfl ?_)
  refine seqq (guard_true rfl rfl (o_y (y_move rfl) rfl ?_))
  refine seqq (guard_true rfl rfl (o_y (y_gtrZ rfl rfl) rfl ?_))
  refine j_re 47 rfl (decT (by omega)) ?_
  refine seqq (o_y (y_pick_t rfl rfl) rfl ?_)
  refine c_nil ?_
  refine c_condT rfl ?_
  refine d_reg 14 mixed rfl ?_
  refine d_y (i := 0) (k' := 1) rfl (by kernel_rfl) (y_move rfl) rfl ?_
  refine d_y (i := 1) (k' := 3) rfl (by kernel_rfl) (y_indexAddrA Tryz.runUnderlying51 Tryz.sizeOf49 rfl rfl (by decide)) rfl ?_
  refine d_s (i := 2) (k' := 7) rfl (by kernel_rfl) (by kernel_rfl) (l1 Tryz.isAgg49 rfl (by rfl)) hss rfl ?_
  refine d_y (i := 3) (k' := 15) rfl (by kernel_rfl) (y_move rfl) rfl ?_
  refine d_y (i := 4) (k' := 31) rfl (by kernel_rfl) (y_move rfl) rfl ?_
  refine d_y (i := 5) (k' := 63) rfl (by kernel_rfl) (y_binZ (v := .int .i64 1) rfl rfl (fun _ => by rfl)) rfl ?_
  refine d_y (i := 6) (k' := 127) rfl (by kernel_rfl) (y_binZ (v := .int .i64 0) rfl rfl (fun _ => by rfl)) rfl ?_
  refine d_y (i := 7) (k' := 255) rfl (by kernel_rfl) (y_indexAddrA Tryz.runUnderlying51 Tryz.sizeOf49 rfl rfl (by decide)) rfl ?_
  refine d_s (i := 8) (k' := 511) rfl (by kernel_rfl) (by kernel_rfl) (l1 Tryz.isAgg49 rfl (by rfl)) hss rfl ?_
  refine d_y (i := 9) (k' := 1023) rfl (by kernel_rfl) (y_move rfl) rfl ?_
  refine d_y (i := 10) (k' := 2047) rfl (by kernel_rfl) (y_subI rfl rfl (by omega)) rfl ?_
  refine j_re 59 rfl (show vI (64 - ((r : Nat) : Int)) = vI ((64 - r : Nat) : Int) from by congr 1; omega) ?_
  refine d_y (i := 11) (k' := 4095) rfl (by kernel_rfl) (y_shrB UK.u64 rfl rfl) rfl ?_
  refine d_y (i := 12) (k' := 8191) rfl (by kernel_rfl) (y_orB UK.u64 rfl rfl) rfl ?_
  refine d_y (i := 13) (k' := 16383) rfl (by kernel_rfl) (y_indexAddrA Tryz.runUnderlying51 Tryz.sizeOf49 rfl rfl (by decide)) rfl ?_
  refine d_e (i := 14) (k' := 32767) rfl (by kernel_rfl) (st1 (h1 := rfl) Tryz.sizeOf49 rfl rfl (by rfl) (by rfl) ( d_past rfl ?_))
  refine d_end (by kernel_rfl) ?_
  refine c_region ?_
  refine seqq (o_y (y_move rfl) rfl ?_)
  refine seqq (o_y (y_binZ (v := .int .i64 2) rfl rfl (fun _ => by rfl)) rfl ?_)
  refine seqq (o_y (y_assign rfl) rfl ?_)
  refine c_nil ?_
  refine c_round ?_
  refine c_seq ?_
  refine c_seq ?_
  refine c_region ?_
  refine seqq (o_y (y_move rfl) rfl ?_)
  refine seqq (o_y (y_binZ (v := .bool true) rfl rfl (fun _ => by rfl)) rfl ?_)
  refine c_nil ?_
  refine c_condT rfl ?_
  refine c_skip ?_
  refine c_seq ?_
  refine c_block ?_
  refine c_seq ?_
  refine c_region ?_
  refine seqq (o_y (y_move rfl) rfl ?_)
  refine seqq (o_y (y_move rfl) rfl ?_)
  refine seqq (o_y (y_move rfl) rfl ?_)
  refine seqq (o_y (y_binZ (v := .int .i64 2) rfl rfl (fun _ => by rfl)) rfl ?_)
  refine seqq (o_y (y_indexAddrA Tryz.runUnderlying51 Tryz.sizeOf49 rfl rfl (by decide)) rfl ?_)
  refine seqq (o_y (l1 Tryz.isAgg49 rfl (by rfl)) rfl ?_)
  refine seqq (o_y (y_move rfl) rfl ?_)
  refine seqq (o_y (y_shlB UK.u64 rfl rfl) rfl ?_)
  refine seqq (o_y (y_indexAddrA Tryz.runUnderlying51 Tryz.sizeOf49 rfl rfl (by decide)) rfl ?_)
  refine seqq (st1 (h1 := rfl) Tryz.sizeOf49 rfl rfl (by rfl) (by rfl) ?_)
  refine c_nil ?_
  refine c_seq ?_
  refine c_region ?_
  refine seqq (o_y (y_move rfl) rfl ?_)
  refine seqq (o_y (y_move rfl) rfl ?_)
  refine seqq (o_y (y_binZ (v := .bool true) rfl rfl (fun _ => by rfl)) rfl ?_)
  refine seqq (o_y (y_move rfl) rfl ?_)
  refine seqq (guard_true rfl rfl (o_y (y_move rfl) rfl ?_))
  refine seqq (guard_true rfl rfl (o_y (y_gtrZ rfl rfl) rfl ?_))
  refine j_re 47 rfl (decT (by omega)) ?_
  refine seqq (o_y (y_pick_t rfl rfl) rfl ?_)
  refine c_nil ?_
  refine c_condT rfl ?_
  refine d_reg 14 mixed rfl ?_
  refine d_y (i := 0) (k' := 1) rfl (by kernel_rfl) (y_move rfl) rfl ?_
  refine d_y (i := 1) (k' := 3) rfl (by kernel_rfl) (y_indexAddrA Tryz.runUnderlying51 Tryz.sizeOf49 rfl rfl (by decide)) rfl ?_
  refine d_s (i := 2) (k' := 7) rfl (by kernel_rfl) (by kernel_rfl) (l1 Tryz.isAgg49 rfl (by rfl)) hss rfl ?_
  refine d_y (i := 3) (k' := 15) rfl (by kernel_rfl) (y_move rfl) rfl ?_
  refine d_y (i := 4) (k' := 31) rfl (by kernel_rfl) (y_move rfl) rfl ?_
  refine d_y (i := 5) (k' := 63) rfl (by kernel_rfl) (y_binZ (v := .int .i64 2) rfl rfl (fun _ => by rfl)) rfl ?_
  refine d_y (i := 6) (k' := 127) rfl (by kernel_rfl) (y_binZ (v := .int .i64 1) rfl rfl (fun _ => by rfl)) rfl ?_
  refine d_y (i := 7) (k' := 255) rfl (by kernel_rfl) (y_indexAddrA Tryz.runUnderlying51 Tryz.sizeOf49 rfl rfl (by decide)) rfl ?_
  refine d_s (i := 8) (k' := 511) rfl (by kernel_rfl) (by kernel_rfl) (l1 Tryz.isAgg49 rfl (by rfl)) hss rfl ?_
  refine d_y (i := 9) (k' := 1023) rfl (by kernel_rfl) (y_move rfl) rfl ?_
  refine d_y (i := 10) (k' := 2047) rfl (by kernel_rfl) (y_subI rfl rfl (by omega)) rfl ?_
  refine j_re 59 rfl (show vI (64 - ((r : Nat) : Int)) = vI ((64 - r : Nat) : Int) from by congr 1; omega) ?_
  refine d_y (i := 11) (k' := 4095) rfl (by kernel_rfl) (y_shrB UK.u64 rfl rfl) rfl ?_
  refine d_y (i := 12) (k' := 8191) rfl (by kernel_rfl) (y_orB UK.u64 rfl rfl) rfl ?_
  refine d_y (i := 13) (k' := 16383) rfl (by kernel_rfl) (y_indexAddrA Tryz.runUnderlying51 Tryz.sizeOf49 rfl rfl (by decide)) rfl ?_
  refine d_e (i := 14) (k' := 32767) rfl (by kernel_rfl) (st1 (h1 := rfl) Tryz.sizeOf49 rfl rfl (by rfl) (by rfl) ( d_past rfl ?_))
  refine d_end (by kernel_rfl) ?_
  refine c_region ?_
  refine seqq (o_y (y_move rfl) rfl ?_)
  refine seqq (o_y (y_binZ (v := .int .i64 3) rfl rfl (fun _ => by rfl)) rfl ?_)
  refine seqq (o_y (y_assign rfl) rfl ?_)
  refine c_nil ?_
  refine c_round ?_
  refine c_seq ?_
  refine c_seq ?_
  refine c_region ?_
  refine seqq (o_y (y_move rfl) rfl ?_)
  refine seqq (o_y (y_binZ (v := .bool true) rfl rfl (fun _ => by rfl)) rfl ?_)
  refine c_nil ?_
  refine c_condT rfl ?_
  refine c_skip ?_
  refine c_seq ?_
  refine c_block ?_
  refine c_seq ?_
  refine c_region ?_
  refine seqq (o_y (y_move rfl) rfl ?_)
  refine seqq (o_y (y_move rfl) rfl ?_)
  refine seqq (o_y (y_move rfl) rfl ?_)
  refine seqq (o_y (y_binZ (v := .int .i64 3) rfl rfl (fun _ => by rfl)) rfl ?_)
  refine seqq (o_y (y_indexAddrA Tryz.runUnderlying51 Tryz.sizeOf49 rfl rfl (by decide)) rfl ?_)
  refine seqq (o_y (l1 Tryz.isAgg49 rfl (by rfl)) rfl ?_)
  refine seqq (o_y (y_move rfl) rfl ?_)
  refine seqq (o_y (y_shlB UK.u64 rfl rfl) rfl ?_)
  refine seqq (o_y (y_indexAddrA Tryz.runUnderlying51 Tryz.sizeOf49 rfl rfl (by decide)) rfl ?_)
  refine seqq (st1 (h1 := rfl) Tryz.sizeOf49 rfl rfl (by rfl) (by rfl) ?_)
  refine c_nil ?_
  refine c_seq ?_
  refine c_region ?_
  refine seqq (o_y (y_move rfl) rfl ?_)
  refine seqq (o_y (y_move rfl) rfl ?_)
  refine seqq (o_y (y_binZ (v := .bool true) rfl rfl (fun _ => by rfl)) rfl ?_)
  refine seqq (o_y (y_move rfl) rfl ?_)
  refine seqq (guard_true rfl rfl (o_y (y_move rfl) rfl ?_))
  refine seqq (guard_true rfl rfl (o_y (y_gtrZ rfl rfl) rfl ?_))
  refine j_re 47 rfl (decT (by omega)) ?_
  refine seqq (o_y (y_pick_t rfl rfl) rfl ?_)
  refine c_nil ?_
  refine c_condT rfl ?_
  refine d_reg 14 mixed rfl ?_
  refine d_y (i := 0) (k' := 1) rfl (by kernel_rfl) (y_move rfl) rfl ?_
  refine d_y (i := 1) (k' := 3) rfl (by kernel_rfl) (y_indexAddrA Tryz.runUnderlying51 Tryz.sizeOf49 rfl rfl (by decide)) rfl ?_
  refine d_s (i := 2) (k' := 7) rfl (by kernel_rfl) (by kernel_rfl) (l1 Tryz.isAgg49 rfl (by rfl)) hss rfl ?_
  refine d_y (i := 3) (k' := 15) rfl (by kernel_rfl) (y_move rfl) rfl ?_
  refine d_y (i := 4) (k' := 31) rfl (by kernel_rfl) (y_move rfl) rfl ?_
  refine d_y (i := 5) (k' := 63) rfl (by kernel_rfl) (y_binZ (v := .int .i64 3) rfl rfl (fun _ => by rfl)) rfl ?_
  refine d_y (i := 6) (k' := 127) rfl (by kernel_rfl) (y_binZ (v := .int .i64 2) rfl rfl (fun _ => by rfl)) rfl ?_
  refine d_y (i := 7) (k' := 255) rfl (by kernel_rfl) (y_indexAddrA Tryz.runUnderlying51 Tryz.sizeOf49 rfl rfl (by decide)) rfl ?_
  refine d_s (i := 8) (k' := 511) rfl (by kernel_rfl) (by kernel_rfl) (l1 Tryz.isAgg49 rfl (by rfl)) hss rfl ?_
  refine d_y (i := 9) (k' := 1023) rfl (by kernel_rfl) (y_move rfl) rfl ?_
  refine d_y (i := 10) (k' := 2047) rfl (by kernel_rfl) (y_subI rfl rfl (by omega)) rfl ?_
  refine j_re 59 rfl (show vI (64 - ((r : Nat) : Int)) = vI ((64 - r : Nat) : Int) from by congr 1; omega) ?_
  refine d_y (i := 11) (k' := 4095) rfl (by kernel_rfl) (y_shrB UK.u64 rfl rfl) rfl ?_
  refine d_y (i := 12) (k' := 8191) rfl (by kernel_rfl) (y_orB UK.u64 rfl rfl) rfl ?_
  refine d_y (i := 13) (k' := 16383) rfl (by kernel_rfl) (y_indexAddrA Tryz.runUnderlying51 Tryz.sizeOf49 rfl rfl (by decide)) rfl ?_
  refine d_e (i := 14) (k' := 32767) rfl (by kernel_rfl) (st1 (h1 := rfl) Tryz.sizeOf49 rfl rfl (by rfl) (by rfl) ( d_past rfl ?_))
  refine d_end (by kernel_rfl) ?_
  refine c_region ?_
  refine seqq (o_y (y_move rfl) rfl ?_)
  refine seqq (o_y (y_binZ (v := .int .i64 4) rfl rfl (fun _ => by rfl)) rfl ?_)
  refine seqq (o_y (y_assign rfl) rfl ?_)
  refine c_nil ?_
  refine c_round ?_
  refine c_seq ?_
  refine c_seq ?_
  refine c_region ?_
  refine seqq (o_y (y_move rfl) rfl ?_)
  refine seqq (o_y (y_binZ (v := .bool false) rfl rfl (fun _ => by rfl)) rfl ?_)
  refine c_nil ?_
  refine c_condF rfl ?_
  refine c_exit ?_
  refine c_seq ?_
  refine c_region ?_
  refine seqq (o_y (lN Tryz.isAgg51 Tryz.sizeOf51 rfl (by rfl)) rfl ?_)
  refine seqq (stN Tryz.sizeOf51 rfl rfl (by rfl) rfl (by rfl) ?_)
  refine c_nil ?_
  refine c_ret ?_
  refine c_done1 Tryz.results89 (rN Tryz.isAgg51 Tryz.sizeOf51 rfl (by rfl)) (fun w hS => ?_)
  exact ⟨rfl, hS.none⟩

theorem wide_Left_1_0 (a b c d : BitVec 64) (r : Nat) (hr : r < 64) (h0 : ¬ 0 < r) : Pure Tryz.prog 89 [vagg (wide a b c d), vI ((64 + r : Nat) : Int)] (vagg (wide 0#64 (a <<< r) (b <<< r) (c <<< r))) := by
  intro w
  refine begin0 Tryz.func89 rfl Tryz.ntmps89 rfl ?_
  refine c_seq ?_
  refine c_region ?_
  refine seqq (o_box (T := 51) rfl (IsP.agg).cells rfl (fun b2 => ?_))
  refine seqq (o_alloc (ps := [P1 (bv .u64 0#64), P1 (bv .u64 0#64), P1 (bv .u64 0#64), P1 (bv .u64 0#64)]) Tryz.zeroValue51 (by kernel_rfl) rfl (fun b4 => ?_))
  refine c_nil ?_
  refine c_seq ?_
  refine c_block ?_
  refine c_seq ?_
  refine c_region ?_
  refine seqq (o_y (y_move rfl) rfl ?_)
  refine seqq (o_y (y_leqZ rfl rfl) rfl ?_)
  refine j_re 11 rfl (decF (by omega)) ?_
  refine seqq (o_y (y_move rfl) rfl ?_)
  refine seqq (guard_true rfl rfl (o_y (y_move rfl) rfl ?_))
  refine seqq (guard_true rfl rfl (o_y (y_geqZ rfl rfl) rfl ?_))
  refine j_re 14 rfl (decF (by omega)) ?_
  refine seqq (o_y (y_pick_f rfl rfl) rfl ?_)
  refine seqq (o_y (y_assign rfl) rfl ?_)
  refine c_nil ?_
  refine c_condF rfl ?_
  refine c_seq ?_
  refine c_region ?_
  refine seqq (o_y (y_move rfl) rfl ?_)
  refine seqq (o_y (y_lssZ rfl rfl) rfl ?_)
  refine j_re 19 rfl (decF (by omega)) ?_
  refine seqq (o_y (y_assign rfl) rfl ?_)
  refine c_nil ?_
  refine c_condF rfl ?_
  refine c_skip ?_
  refine c_seq ?_
  refine c_region ?_
  refine seqq (o_alloc (ps := [P1 (bv .u64 0#64), P1 (bv .u64 0#64), P1 (bv .u64 0#64), P1 (bv .u64 0#64)]) Tryz.zeroValue51 (by kernel_rfl) rfl (fun b5 => ?_))
  refine c_nil ?_
  refine c_seq ?_
  refine c_region ?_
  refine seqq (o_y (y_move rfl) rfl ?_)
  refine seqq (o_y (y_quoI rfl rfl (by omega)) rfl ?_)
  refine j_re 25 rfl (show vI (((64 + r : Nat) : Int) / 64) = vI 1 from by congr 1; omega) ?_
  refine seqq (o_y (y_move rfl) rfl ?_)
  refine seqq (o_y (y_remI rfl rfl (by omega)) rfl ?_)
  refine j_re 27 rfl (show vI (((64 + r : Nat) : Int) % 64) = vI ((r : Nat) : Int) from by congr 1; omega) ?_
  refine seqq (o_y (y_assign rfl) rfl ?_)
  refine seqq (o_y (y_assign rfl) rfl ?_)
  refine c_nil ?_
  refine c_seq ?_
  refine c_seq ?_
  refine c_region ?_
  refine seqq (o_y (y_move rfl) rfl ?_)
  refine seqq (o_y (y_assign rfl) rfl ?_)
  refine c_nil ?_
  refine c_block ?_
  refine c_loop 5 ?_
  refine c_round ?_
  refine c_seq ?_
  refine c_seq ?_
  refine c_region ?_
  refine seqq (o_y (y_move rfl) rfl ?_)
  refine seqq (o_y (y_binZ (v := .bool true) rfl rfl (fun _ => by rfl)) rfl ?_)
  refine c_nil ?_
  refine c_condT rfl ?_
  refine c_skip ?_
  refine c_seq ?_
  refine c_block ?_
  refine c_seq ?_
  refine c_region ?_
  refine seqq (o_y (y_move rfl) rfl ?_)
  refine seqq (o_y (y_move rfl) rfl ?_)
  refine seqq (o_y (y_move rfl) rfl ?_)
  refine seqq (o_y (y_binZ (v := .int .i64 0) rfl rfl (fun _ => by rfl)) rfl ?_)
  refine seqq (o_y (y_indexAddrA Tryz.runUnderlying51 Tryz.sizeOf49 rfl rfl (by decide)) rfl ?_)
  refine seqq (o_y (l1 Tryz.isAgg49 rfl (by rfl)) rfl ?_)
  refine seqq (o_y (y_move rfl) rfl ?_)
  refine seqq (o_y (y_shlB UK.u64 rfl rfl) rfl ?_)
  refine seqq (o_y (y_indexAddrA Tryz.runUnderlying51 Tryz.sizeOf49 rfl rfl (by decide)) rfl ?_)
  refine seqq (st1 (h1 := rfl) Tryz.sizeOf49 rfl rfl (by rfl) (by rfl) ?_)
  refine c_nil ?_
  refine c_seq ?_
  refine c_region ?_
  refine seqq (o_y (y_move rfl) rfl ?_)
  refine seqq (o_y (y_move rfl) rfl ?_)
  refine seqq (o_y (y_binZ (v := .bool false) rfl rfl (fun _ => by rfl)) rfl ?_)
  refine seqq (o_y (y_move rfl) rfl ?_)
  refine seqq (guard_false (c := false) rfl rfl rfl rfl ?_)
  refine seqq (guard_false (c := false) rfl rfl rfl rfl ?_)
  refine seqq (o_y (y_pick_f rfl rfl) rfl ?_)
  refine c_nil ?_
  refine c_condF rfl ?_
  refine c_skip ?_
  refine c_region ?_
  refine seqq (o_y (y_move rfl) rfl ?_)
  refine seqq (o_y (y_binZ (v := .int .i64 2) rfl rfl (fun _ => by rfl)) rfl ?_)
  refine seqq (o_y (y_assign rfl) rfl ?_)
  refine c_nil ?_
  refine c_round ?_
  refine c_seq ?_
  refine c_seq ?_
  refine c_region ?_
  refine seqq (o_y (y_move rfl) rfl ?_)
  refine seqq (o_y (y_binZ (v := .bool true) rfl rfl (fun _ => by rfl)) rfl ?_)
  refine c_nil ?_
  refine c_condT rfl ?_
  refine c_skip ?_
  refine c_seq ?_
  refine c_block ?_
  refine c_seq ?_
  refine c_region ?_
  refine seqq (o_y (y_move rfl) rfl ?_)
  refine seqq (o_y (y_move rfl) rfl ?_)
  refine seqq (o_y (y_move rfl) rfl ?_)
  refine seqq (o_y (y_binZ (v := .int .i64 1) rfl rfl (fun _ => by rfl)) rfl ?_)
  refine seqq (o_y (y_indexAddrA Tryz.runUnderlying51 Tryz.sizeOf49 rfl rfl (by decide)) rfl ?_)
  refine seqq (o_y (l1 Tryz.isAgg49 rfl (by rfl)) rfl ?_)
  refine seqq (o_y (y_move rfl) rfl ?_)
  refine seqq (o_y (y_shlB UK.u64 rfl rfl) rfl ?_)
  refine seqq (o_y (y_indexAddrA Tryz.runUnderlying51 Tryz.sizeOf49 rfl rfl (by decide)) rfl ?_)
  refine seqq (st1 (h1 := rfl) Tryz.sizeOf49 rfl rfl (by rfl) (by rfl) ?_)
  refine c_nil ?_
  refine c_seq ?_
  refine c_region ?_
  refine seqq (o_y (y_move rfl) rfl ?_)
  refine seqq (o_y (y_move rfl) rfl ?_)
  refine seqq (o_y (y_binZ (v := .bool true) rfl rfl (fun _ => by rfl)) rfl ?_)
  refine seqq (o_y (y_move rfl) rfl ?_)
  refine seqq (guard_true rfl rfl (o_y (y_move rfl) rfl ?_))
  refine seqq (guard_true rfl rfl (o_y (y_gtrZ rfl rfl) rfl ?_))
  refine j_re 47 rfl (decF (by omega)) ?_
  refine seqq (o_y (y_pick_t rfl rfl) rfl ?_)
  refine c_nil ?_
  refine c_condF rfl ?_
  refine c_skip ?_
  refine c_region ?_
  refine seqq (o_y (y_move rfl) rfl ?_)
  refine seqq (o_y (y_binZ (v := .int .i64 3) rfl rfl (fun _ => by rfl)) rfl ?_)
  refine seqq (o_y (y_assign rfl) rfl ?_)
  refine c_nil ?_
  refine c_round ?_
  refine c_seq ?_
  refine c_seq ?_
  refine c_region ?_
  refine seqq (o_y (y_move rfl) rfl ?_)
  refine seqq (o_y (y_binZ (v := .bool true) rfl rfl (fun _ => by rfl)) rfl ?_)
  refine c_nil ?_
  refine c_condT rfl ?_
  refine c_skip ?_
  refine c_seq ?_
  refine c_block ?_
  refine c_seq ?_
  refine c_region ?_
  refine seqq (o_y (y_move rfl) rfl ?_)
  refine seqq (o_y (y_move rfl) rfl ?_)
  refine seqq (o_y (y_move rfl) rfl ?_)
  refine seqq (o_y (y_binZ (v := .int .i64 2) rfl rfl (fun _ => by rfl)) rfl ?_)
  refine seqq (o_y (y_indexAddrA Tryz.runUnderlying51 Tryz.sizeOf49 rfl rfl (by decide)) rfl ?_)
  refine seqq (o_y (l1 Tryz.isAgg49 rfl (by rfl)) rfl ?_)
  refine seqq (o_y (y_move rfl) rfl ?_)
  refine seqq (o_y (y_shlB UK.u64 rfl rfl) rfl ?_)
  refine seqq (o_y (y_indexAddrA Tryz.runUnderlying51 Tryz.sizeOf49 rfl rfl (by decide)) rfl ?_)
  refine seqq (st1 (h1 := rfl) Tryz.sizeOf49 rfl rfl (by rfl) (by rfl) ?_)
  refine c_nil ?_
  refine c_seq ?_
  refine c_region ?_
  refine seqq (o_y (y_move rfl) rfl ?_)
  refine seqq (o_y (y_move rfl) rfl ?_)
  refine seqq (o_y (y_binZ (v := .bool true) rfl rfl (fun _ => by rfl)) rfl ?_)
  refine seqq (o_y (y_move rfl) rfl ?_)
  refine seqq (guard_true rfl rfl (o_y (y_move rfl) rfl ?_))
  refine seqq (guard_true rfl rfl (o_y (y_gtrZ rfl rfl) rfl ?_))
  refine j_re 47 rfl (decF (by omega)) ?_
  refine seqq (o_y (y_pick_t rfl rfl) rfl ?_)
  refine c_nil ?_
  refine c_condF rfl ?_
  refine c_skip ?_
  refine c_region ?_
  refine seqq (o_y (y_move rfl) rfl ?_)
  refine seqq (o_y (y_binZ (v := .int .i64 4) rfl rfl (fun _ => by rfl)) rfl ?_)
  refine seqq (o_y (y_assign rfl) rfl ?_)
  refine c_nil ?_
  refine c_round ?_
  refine c_seq ?_
  refine c_seq ?_
  refine c_region ?_
  refine seqq (o_y (y_move rfl) rfl ?_)
  refine seqq (o_y (y_binZ (v := .bool false) rfl rfl (fun _ => by rfl)) rfl ?_)
  refine c_nil ?_
  refine c_condF rfl ?_
  refine c_exit ?_
  refine c_seq ?_
  refine c_region ?_
  refine seqq (o_y (lN Tryz.isAgg51 Tryz.sizeOf51 rfl (by rfl)) rfl ?_)
  refine seqq (stN Tryz.sizeOf51 rfl rfl (by rfl) rfl (by rfl) ?_)
  refine c_nil ?_
  refine c_ret ?_
  refine c_done1 Tryz.results89 (rN Tryz.isAgg51 Tryz.sizeOf51 rfl (by rfl)) (fun w hS => ?_)
  exact ⟨rfl, hS.none⟩

theorem wide_Left_1_1 (a b c d : BitVec 64) (r : Nat) (hr : r < 64) (h0 : 0 < r) : Pure Tryz.prog 89 [vagg (wide a b c d), vI ((64 + r : Nat) : Int)] (vagg (wide 0#64 (a <<< r) ((b <<< r) ||| (a >>> (64 - r))) ((c <<< r) ||| (b >>> (64 - r))))) := by
  intro w
  refine begin0 Tryz.func89 rfl Tryz.ntmps89 rfl ?_
  refine c_seq ?_
  refine c_region ?_
  refine seqq (o_box (T := 51) rfl (IsP.agg).cells rfl (fun b2 => ?_))
  refine seqq (o_alloc (ps := [P1 (bv .u64 0#64), P1 (bv .u64 0#64), P1 (bv .u64 0#64), P1 (bv .u64 0#64)]) Tryz.zeroValue51 (by kernel_rfl) rfl (fun b4 => ?_))
  refine c_nil ?_
  refine c_seq ?_
  refine c_block ?_
  refine c_seq ?_
  refine c_region ?_
  refine seqq (o_y (y_move rfl) rfl ?_)
  refine seqq (o_y (y_leqZ rfl rfl) rfl ?_)
  refine j_re 11 rfl (decF (by omega)) ?_
  refine seqq (o_y (y_move rfl) rfl ?_)
  refine seqq (guard_true rfl rfl (o_y (y_move rfl) rfl ?_))
  refine seqq (guard_true rfl rfl (o_y (y_geqZ rfl rfl) rfl ?_))
  refine j_re 14 rfl (decF (by omega)) ?_
  refine seqq (o_y (y_pick_f rfl rfl) rfl ?_)
  refine seqq (o_y (y_assign rfl) rfl ?_)
  refine c_nil ?_
  refine c_condF rfl ?_
  refine c_seq ?_
  refine c_region ?_
  refine seqq (o_y (y_move rfl) rfl ?_)
  refine seqq (o_y (y_lssZ rfl rfl) rfl ?_)
  refine j_re 19 rfl (decF (by omega)) ?_
  refine seqq (o_y (y_assign rfl) rfl ?_)
  refine c_nil ?_
  refine c_condF rfl ?_
  refine c_skip ?_
  refine c_seq ?_
  refine c_region ?_
  refine seqq (o_alloc (ps := [P1 (bv .u64 0#64), P1 (bv .u64 0#64), P1 (bv .u64 0#64), P1 (bv .u64 0#64)]) Tryz.zeroValue51 (by kernel_rfl) rfl (fun b5 => ?_))
  refine c_nil ?_
  refine c_seq ?_
  refine c_region ?_
  refine seqq (o_y (y_move rfl) rfl ?_)
  refine seqq (o_y (y_quoI rfl rfl (by omega)) rfl ?_)
  refine j_re 25 rfl (show vI (((64 + r : Nat) : Int) / 64) = vI 1 from by congr 1; omega) ?_
  refine seqq (o_y (y_move rfl) rfl ?_)
  refine seqq (o_y (y_remI rfl rfl (by omega)) rfl ?_)
  refine j_re 27 rfl (show vI (((64 + r : Nat) : Int) % 64) = vI ((r : Nat) : Int) from by congr 1; omega) ?_
  refine seqq (o_y (y_assign rfl) rfl ?_)
  refine seqq (o_y (y_assign rfl) rfl ?_)
  refine c_nil ?_
  refine c_seq ?_
  refine c_seq ?_
  refine c_region ?_
  refine seqq (o_y (y_move rfl) rfl ?_)
  refine seqq (o_y (y_assign rfl) rfl ?_)
  refine c_nil ?_
  refine c_block ?_
  refine c_loop 5 ?_
  refine c_round ?_
  refine c_seq ?_
  refine c_seq ?_
  refine c_region ?_
  refine seqq (o_y (y_move rfl) rfl ?_)
  refine seqq (o_y (y_binZ (v := .bool true) rfl rfl (fun _ => by rfl)) rfl ?_)
  refine c_nil ?_
  refine c_condT rfl ?_
  refine c_skip ?_
  refine c_seq ?_
  refine c_block ?_
  refine c_seq ?_
  refine c_region ?_
  refine seqq (o_y (y_move rfl) rfl ?_)
  refine seqq (o_y (y_move rfl) rfl ?_)
  refine seqq (o_y (y_move rfl) rfl ?_)
  refine seqq (o_y (y_binZ (v := .int .i64 0) rfl rfl (fun _ => by rfl)) rfl ?_)
  refine seqq (o_y (y_indexAddrA Tryz.runUnderlying51 Tryz.sizeOf49 rfl rfl (by decide)) rfl ?_)
  refine seqq (o_y (l1 Tryz.isAgg49 rfl (by rfl)) rfl ?_)
  refine seqq (o_y (y_move rfl) rfl ?_)
  refine seqq (o_y (y_shlB UK.u64 rfl rfl) rfl ?_)
  refine seqq (o_y (y_indexAddrA Tryz.runUnderlying51 Tryz.sizeOf49 rfl rfl (by decide)) rfl ?_)
  refine seqq (st1 (h1 := rfl) Tryz.sizeOf49 rfl rfl (by rfl) (by rfl) ?_)
  refine c_nil ?_
  refine c_seq ?_
  refine c_region ?_
  refine seqq (o_y (y_move rfl) rfl ?_)
  refine seqq (o_y (y_move rfl) rfl ?_)
  refine seqq (o_y (y_binZ (v := .bool false) rfl rfl (fun _ => by rfl)) rfl ?_)
  refine seqq (o_y (y_move rfl) rfl ?_)
  refine seqq (guard_false (c := false) rfl rfl rfl rfl ?_)
  refine seqq (guard_false (c := false) rfl rfl rfl rfl ?_)
  refine seqq (o_y (y_pick_f rfl rfl) rfl ?_)
  refine c_nil ?_
  refine c_condF rfl ?_
  refine c_skip ?_
  refine c_region ?_
  refine seqq (o_y (y_move rfl) rfl ?_)
  refine seqq (o_y (y_binZ (v := .int .i64 2) rfl rfl (fun _ => by rfl)) rfl ?_)
  refine seqq (o_y (y_assign rfl) rfl ?_)
  refine c_nil ?_
  refine c_round ?_
  refine c_seq ?_
  refine c_seq ?_
  refine c_region ?_
  refine seqq (o_y (y_move rfl) rfl ?_)
  refine seqq (o_y (y_binZ (v := .bool true) rfl rfl (fun _ => by rfl)) rfl ?_)
  refine c_nil ?_
  refine c_condT rfl ?_
  refine c_skip ?_
  refine c_seq ?_
  refine c_block ?_
  refine c_seq ?_
  refine c_region ?_
  refine seqq (o_y (y_move rfl) rfl ?_)
  refine seqq (o_y (y_move rfl) rfl ?_)
  refine seqq (o_y (y_move rfl) rfl ?_)
  refine seqq (o_y (y_binZ (v := .int .i64 1) rfl rfl (fun _ => by rfl)) rfl ?_)
  refine seqq (o_y (y_indexAddrA Tryz.runUnderlying51 Tryz.sizeOf49 rfl rfl (by decide)) rfl ?_)
  refine seqq (o_y (l1 Tryz.isAgg49 rfl (by rfl)) rfl ?_)
  refine seqq (o_y (y_move rfl) rfl ?_)
  refine seqq (o_y (y_shlB UK.u64 rfl rfl) rfl ?_)
  refine seqq (o_y (y_indexAddrA Tryz.runUnderlying51 Tryz.sizeOf49 rfl rfl (by decide)) rfl ?_)
  refine seqq (st1 (h1 := rfl) Tryz.sizeOf49 rfl rfl (by rfl) (by rfl) ?_)
  refine c_nil ?_
  refine c_seq ?_
  refine c_region ?_
  refine seqq (o_y (y_move rfl) rfl ?_)
  refine seqq (o_y (y_move rfl) rfl ?_)
  refine seqq (o_y (y_binZ (v := .bool true) rfl rfl (fun _ => by rfl)) rfl ?_)
  refine seqq (o_y (y_move rfl) rfl ?_)
  refine seqq (guard_true rfl rfl (o_y (y_move rfl) rfl ?_))
  refine seqq (guard_true rfl rfl (o_y (y_gtrZ rfl rfl) rfl ?_))
  refine j_re 47 rfl (decT (by omega)) ?_
  refine seqq (o_y (y_pick_t rfl rfl) rfl ?_)
  refine c_nil ?_
  refine c_condT rfl ?_
  refine d_reg 14 mixed rfl ?_
  refine d_y (i := 0) (k' := 1) rfl (by kernel_rfl) (y_move rfl) rfl ?_
  refine d_y (i := 1) (k' := 3) rfl (by kernel_rfl) (y_indexAddrA Tryz.runUnderlying51 Tryz.sizeOf49 rfl rfl (by decide)) rfl ?_
  refine d_s (i := 2) (k' := 7) rfl (by kernel_rfl) (by kernel_rfl) (l1 Tryz.isAgg49 rfl (by rfl)) hss rfl ?_
  refine d_y (i := 3) (k' := 15) rfl (by kernel_rfl) (y_move rfl) rfl ?_
  refine d_y (i := 4) (k' := 31) rfl (by kernel_rfl) (y_move rfl) rfl ?_
  refine d_y (i := 5) (k' := 63) rfl (by kernel_rfl) (y_binZ (v := .int .i64 1) rfl rfl (fun _ => by rfl)) rfl ?_
  refine d_y (i := 6) (k' := 127) rfl (by kernel_rfl) (y_binZ (v := .int .i64 0) rfl rfl (fun _ => by rfl)) rfl ?_
  refine d_y (i := 7) (k' := 255) rfl (by kernel_rfl) (y_indexAddrA Tryz.runUnderlying51 Tryz.sizeOf49 rfl rfl (by decide)) rfl ?_
  refine d_s (i := 8) (k' := 511) rfl (by kernel_rfl) (by kernel_rfl) (l1 Tryz.isAgg49 rfl (by rfl)) hss rfl ?_
  refine d_y (i := 9) (k' := 1023) rfl (by kernel_rfl) (y_move rfl) rfl ?_
  refine d_y (i := 10) (k' := 2047) rfl (by kernel_rfl) (y_subI rfl rfl (by omega)) rfl ?_
  refine j_re 59 rfl (show vI (64 - ((r : Nat) : Int)) = vI ((64 - r : Nat) : Int) from by congr 1; omega) ?_
  refine d_y (i := 11) (k' := 4095) rfl (by kernel_rfl) (y_shrB UK.u64 rfl rfl) rfl ?_
  refine d_y (i := 12) (k' := 8191) rfl (by kernel_rfl) (y_orB UK.u64 rfl rfl) rfl ?_
  refine d_y (i := 13) (k' := 16383) rfl (by kernel_rfl) (y_indexAddrA Tryz.runUnderlying51 Tryz.sizeOf49 rfl rfl (by decide)) rfl ?_
  refine d_e (i := 14) (k' := 32767) rfl (by kernel_rfl) (st1 (h1 := rfl) Tryz.sizeOf49 rfl rfl (by rfl) (by rfl) ( d_past rfl ?_))
  refine d_end (by kernel_rfl) ?_
  refine c_region ?_
  refine seqq (o_y (y_move rfl) rfl ?_)
  refine seqq (o_y (y_binZ (v := .int .i64 3) rfl rfl (fun _ => by rfl)) rfl ?_)
  refine seqq (o_y (y_assign rfl) rfl ?_)
  refine c_nil ?_
  refine c_round ?_
  refine c_seq ?_
  refine c_seq ?_
  refine c_region ?_
  refine seqq (o_y (y_move rfl) rfl ?_)
  refine seqq (o_y (y_binZ (v := .bool true) rfl rfl (fun _ => by rfl)) rfl ?_)
  refine c_nil ?_
  refine c_condT rfl ?_
  refine c_skip ?_
  refine c_seq ?_
  refine c_block ?_
  refine c_seq ?_
  refine c_region ?_
  refine seqq (o_y (y_move rfl) rfl ?_)
  refine seqq (o_y (y_move rfl) rfl ?_)
  refine seqq (o_y (y_move rfl) rfl ?_)
  refine seqq (o_y (y_binZ (v := .int .i64 2) rfl rfl (fun _ => by rfl)) rfl ?_)
  refine seqq (o_y (y_indexAddrA Tryz.runUnderlying51 Tryz.sizeOf49 rfl rfl (by decide)) rfl ?_)
  refine seqq (o_y (l1 Tryz.isAgg49 rfl (by rfl)) rfl ?_)
  refine seqq (o_y (y_move rfl) rfl ?_)
  refine seqq (o_y (y_shlB UK.u64 rfl rfl) rfl ?_)
  refine seqq (o_y (y_indexAddrA Tryz.runUnderlying51 Tryz.sizeOf49 rfl rfl (by decide)) rfl ?_)
  refine seqq (st1 (h1 := rfl) Tryz.sizeOf49 rfl rfl (by rfl) (by rfl) ?_)
  refine c_nil ?_
  refine c_seq ?_
  refine c_region ?_
  refine seqq (o_y (y_move rfl) rfl ?_)
  refine seqq (o_y (y_move rfl) rfl ?_)
  refine seqq (o_y (y_binZ (v := .bool true) rfl rfl (fun _ => by rfl)) rfl ?_)
  refine seqq (o_y (y_move rfl) rfl ?_)
  refine seqq (guard_true rfl rfl (o_y (y_move rfl) rfl ?_))
  refine seqq (guard_true rfl rfl (o_y (y_gtrZ rfl rfl) rfl ?_))
  refine j_re 47 rfl (decT (by omega)) ?_
  refine seqq (o_y (y_pick_t rfl rfl) rfl ?_)
  refine c_nil ?_
  refine c_condT rfl ?_
  refine d_reg 14 mixed rfl ?_
  refine d_y (i := 0) (k' := 1) rfl (by kernel_rfl) (y_move rfl) rfl ?_
  refine d_y (i := 1) (k' := 3) rfl (by kernel_rfl) (y_indexAddrA Tryz.runUnderlying51 Tryz.sizeOf49 rfl rfl (by decide)) rfl ?_
  refine d_s (i := 2) (k' := 7) rfl (by kernel_rfl) (by kernel_rfl) (l1 Tryz.isAgg49 rfl (by rfl)) hss rfl ?_
  refine d_y (i := 3) (k' := 15) rfl (by kernel_rfl) (y_move rfl) rfl ?_
  refine d_y (i := 4) (k' := 31) rfl (by kernel_rfl) (y_move rfl) rfl ?_
  refine d_y (i := 5) (k' := 63) rfl (by kernel_rfl) (y_binZ (v := .int .i64 2) rfl rfl (fun _ => by rfl)) rfl ?_
  refine d_y (i := 6) (k' := 127) rfl (by kernel_rfl) (y_binZ (v := .int .i64 1) rfl rfl (fun _ => by rfl)) rfl ?_
  refine d_y (i := 7) (k' := 255) rfl (by kernel_rfl) (y_indexAddrA Tryz.runUnderlying51 Tryz.sizeOf49 rfl rfl (by decide)) rfl ?_
  refine d_s (i := 8) (k' := 511) rfl (by kernel_rfl) (by kernel_rfl) (l1 Tryz.isAgg49 rfl (by rfl)) hss rfl ?_
  refine d_y (i := 9) (k' := 1023) rfl (by kernel_rfl) (y_move rfl) rfl ?_
  refine d_y (i := 10) (k' := 2047) rfl (by kernel_rfl) (y_subI rfl rfl (by omega)) rfl ?_
  refine j_re 59 rfl (show vI (64 - ((r : Nat) : Int)) = vI ((64 - r : Nat) : Int) from by congr 1; omega) ?_
  refine d_y (i := 11) (k' := 4095) rfl (by kernel_rfl) (y_shrB UK.u64 rfl rfl) rfl ?_
  refine d_y (i := 12) (k' := 8191) rfl (by kernel_rfl) (y_orB UK.u64 rfl rfl) rfl ?_
  refine d_y (i := 13) (k' := 16383) rfl (by kernel_rfl) (y_indexAddrA Tryz.runUnderlying51 Tryz.sizeOf49 rfl rfl (by decide)) rfl ?_
  refine d_e (i := 14) (k' := 32767) rfl (by kernel_rfl) (st1 (h1 := rfl) Tryz.sizeOf49 rfl rfl (by rfl) (by rfl) ( d_past rfl ?_))
  refine d_end (by kernel_rfl) ?_
  refine c_region ?_
  refine seqq (o_y (y_move rfl) rfl ?_)
  refine seqq (o_y (y_binZ (v := .int .i64 4) rfl rfl (fun _ => by rfl)) rfl ?_)
  refine seqq (o_y (y_assign rfl) rfl ?_)
  refine c_nil ?_
  refine c_round ?_
  refine c_seq ?_
  refine c_seq ?_
  refine c_region ?_
  refine seqq (o_y (y_move rfl) rfl ?_)
  refine seqq (o_y (y_binZ (v := .bool false) rfl rfl (fun _ => by rfl)) rfl ?_)
  refine c_nil ?_
  refine c_condF rfl ?_
  refine c_exit ?_
  refine c_seq ?_
  refine c_region ?_
  refine seqq (o_y (lN Tryz.isAgg51 Tryz.sizeOf51 rfl (by rfl)) rfl ?_)
  refine seqq (stN Tryz.sizeOf51 rfl rfl (by rfl) rfl (by rfl) ?_)
  refine c_nil ?_
  refine c_ret ?_
  refine c_done1 Tryz.results89 (rN Tryz.isAgg51 Tryz.sizeOf51 rfl (by rfl)) (fun w hS => ?_)
  exact ⟨rfl, hS.none⟩

theorem wide_Left_2_0 (a b c d : BitVec 64) (r : Nat) (hr : r < 64) (h0 : ¬ 0 < r) : Pure Tryz.prog 89 [vagg (wide a b c d), vI ((128 + r : Nat) : Int)] (vagg (wide 0#64 0#64 (a <<< r) (b <<< r))) := by
  intro w
  refine begin0 Tryz.func89 rfl Tryz.ntmps89 rfl ?_
  refine c_seq ?_
  refine c_region ?_
  refine seqq (o_box (T := 51) rfl (IsP.agg).cells rfl (fun b2 => ?_))
  refine seqq (o_alloc (ps := [P1 (bv .u64 0#64), P1 (bv .u64 0#64), P1 (bv .u64 0#64), P1 (bv .u64 0#64)]) Tryz.zeroValue51 (by kernel_rfl) rfl (fun b4 => ?_))
  refine c_nil ?_
  refine c_seq ?_
  refine c_block ?_
  refine c_seq ?_
  refine c_region ?_
  refine seqq (o_y (y_move rfl) rfl ?_)
  refine seqq (o_y (y_leqZ rfl rfl) rfl ?_)
  refine j_re 11 rfl (decF (by omega)) ?_
  refine seqq (o_y (y_move rfl) rfl ?_)
  refine seqq (guard_true rfl rfl (o_y (y_move rfl) rfl ?_))
  refine seqq (guard_true rfl rfl (o_y (y_geqZ rfl rfl) rfl ?_))
  refine j_re 14 rfl (decF (by omega)) ?_
  refine seqq (o_y (y_pick_f rfl rfl) rfl ?_)
  refine seqq (o_y (y_assign rfl) rfl ?_)
  refine c_nil ?_
  refine c_condF rfl ?_
  refine c_seq ?_
  refine c_region ?_
  refine seqq (o_y (y_move rfl) rfl ?_)
  refine seqq (o_y (y_lssZ rfl rfl) rfl ?_)
  refine j_re 19 rfl (decF (by omega)) ?_
  refine seqq (o_y (y_assign rfl) rfl ?_)
  refine c_nil ?_
  refine c_condF rfl ?_
  refine c_skip ?_
  refine c_seq ?_
  refine c_region ?_
  refine seqq (o_alloc (ps := [P1 (bv .u64 0#64), P1 (bv .u64 0#64), P1 (bv .u64 0#64), P1 (bv .u64 0#64)]) Tryz.zeroValue51 (by kernel_rfl) rfl (fun b5 => ?_))
  refine c_nil ?_
  refine c_seq ?_
  refine c_region ?_
  refine seqq (o_y (y_move rfl) rfl ?_)
  refine seqq (o_y (y_quoI rfl rfl (by omega)) rfl ?_)
  refine j_re 25 rfl (show vI (((128 + r : Nat) : Int) / 64) = vI 2 from by congr 1; omega) ?_
  refine seqq (o_y (y_move rfl) rfl ?_)
  refine seqq (o_y (y_remI rfl rfl (by omega)) rfl ?_)
  refine j_re 27 rfl (show vI (((128 + r : Nat) : Int) % 64) = vI ((r : Nat) : Int) from by congr 1; omega) ?_
  refine seqq (o_y (y_assign rfl) rfl ?_)
  refine seqq (o_y (y_assign rfl) rfl ?_)
  refine c_nil ?_
  refine c_seq ?_
  refine c_seq ?_
  refine c_region ?_
  refine seqq (o_y (y_move rfl) rfl ?_)
  refine seqq (o_y (y_assign rfl) rfl ?_)
  refine c_nil ?_
  refine c_block ?_
  refine c_loop 5 ?_
  refine c_round ?_
  refine c_seq ?_
  refine c_seq ?_
  refine c_region ?_
  refine seqq (o_y (y_move rfl) rfl ?_)
  refine seqq (o_y (y_binZ (v := .bool true) rfl rfl (fun _ => by rfl)) rfl ?_)
  refine c_nil ?_
  refine c_condT rfl ?_
  refine c_skip ?_
  refine c_seq ?_
  refine c_block ?_
  refine c_seq ?_
  refine c_region ?_
  refine seqq (o_y (y_move rfl) rfl ?_)
  refine seqq (o_y (y_move rfl) rfl ?_)
  refine seqq (o_y (y_move rfl) rfl ?_)
  refine seqq (o_y (y_binZ (v := .int .i64 0) rfl rfl (fun _ => by rfl)) rfl ?_)
  refine seqq (o_y (y_indexAddrA Tryz.runUnderlying51 Tryz.sizeOf49 rfl rfl (by decide)) rfl ?_)
  refine seqq (o_y (l1 Tryz.isAgg49 rfl (by rfl)) rfl ?_)
  refine seqq (o_y (y_move rfl) rfl ?_)
  refine seqq (o_y (y_shlB UK.u64 rfl rfl) rfl ?_)
  refine seqq (o_y (y_indexAddrA Tryz.runUnderlying51 Tryz.sizeOf49 rfl rfl (by decide)) rfl ?_)
  refine seqq (st1 (h1 := rfl) Tryz.sizeOf49 rfl rfl (by rfl) (by rfl) ?_)
  refine c_nil ?_
  refine c_seq ?_
  refine c_region ?_
  refine seqq (o_y (y_move rfl) rfl ?_)
  refine seqq (o_y (y_move rfl) rfl ?_)
  refine seqq (o_y (y_binZ (v := .bool false) rfl rfl (fun _ => by rfl)) rfl ?_)
  refine seqq (o_y (y_move rfl) rfl ?_)
  refine seqq (guard_false (c := false) rfl rfl rfl rfl ?_)
  refine seqq (guard_false (c := false) rfl rfl rfl rfl ?_)
  refine seqq (o_y (y_pick_f rfl rfl) rfl ?_)
  refine c_nil ?_
  refine c_condF rfl ?_
  refine c_skip ?_
  refine c_region ?_
  refine seqq (o_y (y_move rfl) rfl ?_)
  refine seqq (o_y (y_binZ (v := .int .i64 3) rfl rfl (fun _ => by rfl)) rfl ?_)
  refine seqq (o_y (y_assign rfl) rfl ?_)
  refine c_nil ?_
  refine c_round ?_
  refine c_seq ?_
  refine c_seq ?_
  refine c_region ?_
  refine seqq (o_y (y_move rfl) rfl ?_)
  refine seqq (o_y (y_binZ (v := .bool true) rfl rfl (fun _ => by rfl)) rfl ?_)
  refine c_nil ?_
  refine c_condT rfl ?_
  refine c_skip ?_
  refine c_seq ?_
  refine c_block ?_
  refine c_seq ?_
  refine c_region ?_
  refine seqq (o_y (y_move rfl) rfl ?_)
  refine seqq (o_y (y_move rfl) rfl ?_)
  refine seqq (o_y (y_move rfl) rfl ?_)
  refine seqq (o_y (y_binZ (v := .int .i64 1) rfl rfl (fun _ => by rfl)) rfl ?_)
  refine seqq (o_y (y_indexAddrA Tryz.runUnderlying51 Tryz.sizeOf49 rfl rfl (by decide)) rfl ?_)
  refine seqq (o_y (l1 Tryz.isAgg49 rfl (by rfl)) rfl ?_)
  refine seqq (o_y (y_move rfl) rfl ?_)
  refine seqq (o_y (y_shlB UK.u64 rfl rfl) rfl ?_)
  refine seqq (o_y (y_indexAddrA Tryz.runUnderlying51 Tryz.sizeOf49 rfl rfl (by decide)) rfl ?_)
  refine seqq (st1 (h1 := rfl) Tryz.sizeOf49 rfl rfl (by rfl) (by rfl) ?_)
  refine c_nil ?_
  refine c_seq ?_
  refine c_region ?_
  refine seqq (o_y (y_move rfl) rfl ?_)
  refine seqq (o_y (y_move rfl) rfl ?_)
  refine seqq (o_y (y_binZ (v := .bool true) rfl rfl (fun _ => by rfl)) rfl ?_)
  refine seqq (o_y (y_move rfl) rfl ?_)
  refine seqq (guard_true rfl rfl (o_y (y_move rfl) rfl ?_))
  refine seqq (guard_true rfl rfl (o_y (y_gtrZ rfl rfl) rfl ?_))
  refine j_re 47 rfl (decF (by omega)) ?_
  refine seqq (o_y (y_pick_t rfl rfl) rfl ?_)
  refine c_nil ?_
  refine c_condF rfl ?_
  refine c_skip ?_
  refine c_region ?_
  refine seqq (o_y (y_move rfl) rfl ?_)
  refine seqq (o_y (y_binZ (v := .int .i64 4) rfl rfl (fun _ => by rfl)) rfl ?_)
  refine seqq (o_y (y_assign rfl) rfl ?_)
  refine c_nil ?_
  refine c_round ?_
  refine c_seq ?_
  refine c_seq ?_
  refine c_region ?_
  refine seqq (o_y (y_move rfl) rfl ?_)
  refine seqq (o_y (y_binZ (v := .bool false) rfl rfl (fun _ => by rfl)) rfl ?_)
  refine c_nil ?_
  refine c_condF rfl ?_
  refine c_exit ?_
  refine c_seq ?_
  refine c_region ?_
  refine seqq (o_y (lN Tryz.isAgg51 Tryz.sizeOf51 rfl (by rfl)) rfl ?_)
  refine seqq (stN Tryz.sizeOf51 rfl rfl (by rfl) rfl (by rfl) ?_)
  refine c_nil ?_
  refine c_ret ?_
  refine c_done1 Tryz.results89 (rN Tryz.isAgg51 Tryz.sizeOf51 rfl (by rfl)) (fun w hS => ?_)
  exact ⟨rfl, hS.none⟩

theorem wide_Left_2_1 (a b c d : BitVec 64) (r : Nat) (hr : r < 64) (h0 : 0 < r) : Pure Tryz.prog 89 [vagg (wide a b c d), vI ((128 + r : Nat) : Int)] (vagg (wide 0#64 0#64 (a <<< r) ((b <<< r) ||| (a >>> (64 - r))))) := by
  intro w
  refine begin0 Tryz.func89 rfl Tryz.ntmps89 rfl ?_
  refine c_seq ?_
  refine c_region ?_
  refine seqq (o_box (T := 51) rfl (IsP.agg).cells rfl (fun b2 => ?_))
  refine seqq (o_alloc (ps := [P1 (bv .u64 0#64), P1 (bv .u64 0#64), P1 (bv .u64 0#64), P1 (bv .u64 0#64)]) Tryz.zeroValue51 (by kernel_rfl) rfl (fun b4 => ?_))
  refine c_nil ?_
  refine c_seq ?_
  refine c_block ?_
  refine c_seq ?_
  refine c_region ?_
  refine seqq (o_y (y_move rfl) rfl ?_)
  refine seqq (o_y (y_leqZ rfl rfl) rfl ?_)
  refine j_re 11 rfl (decF (by omega)) ?_
  refine seqq (o_y (y_move rfl) rfl ?_)
  refine seqq (guard_true rfl rfl (o_y (y_move rfl) rfl ?_))
  refine seqq (guard_true rfl rfl (o_y (y_geqZ rfl rfl) rfl ?_))
  refine j_re 14 rfl (decF (by omega)) ?_
  refine seqq (o_y (y_pick_f rfl rfl) rfl ?_)
  refine seqq (o_y (y_assign rfl) rfl ?_)
  refine c_nil ?_
  refine c_condF rfl ?_
  refine c_seq ?_
  refine c_region ?_
  refine seqq (o_y (y_move rfl) rfl ?_)
  refine seqq (o_y (y_lssZ rfl rfl) rfl ?_)
  refine j_re 19 rfl (decF (by omega)) ?_
  refine seqq (o_y (y_assign rfl) rfl ?_)
  refine c_nil ?_
  refine c_condF rfl ?_
  refine c_skip ?_
  refine c_seq ?_
  refine c_region ?_
  refine seqq (o_alloc (ps := [P1 (bv .u64 0#64), P1 (bv .u64 0#64), P1 (bv .u64 0#64), P1 (bv .u64 0#64)]) Tryz.zeroValue51 (by kernel_rfl) rfl (fun b5 => ?_))
  refine c_nil ?_
  refine c_seq ?_
  refine c_region ?_
  refine seqq (o_y (y_move rfl) rfl ?_)
  refine seqq (o_y (y_quoI rfl rfl (by omega)) rfl ?_)
  refine j_re 25 rfl (show vI (((128 + r : Nat) : Int) / 64) = vI 2 from by congr 1; omega) ?_
  refine seqq (o_y (y_move rfl) rfl ?_)
  refine seqq (o_y (y_remI rfl rfl (by omega)) rfl ?_)
  refine j_re 27 rfl (show vI (((128 + r : Nat) : Int) % 64) = vI ((r : Nat) : Int) from by congr 1; omega) ?_
  refine seqq (o_y (y_assign rfl) rfl ?_)
  refine seqq (o_y (y_assign rfl) rfl ?_)
  refine c_nil ?_
  refine c_seq ?_
  refine c_seq ?_
  refine c_region ?_
  refine seqq (o_y (y_move rfl) rfl ?_)
  refine seqq (o_y (y_assign rfl) rfl ?_)
  refine c_nil ?_
  refine c_block ?_
  refine c_loop 5 ?_
  refine c_round ?_
  refine c_seq ?_
  refine c_seq ?_
  refine c_region ?_
  refine seqq (o_y (y_move rfl) rfl ?_)
  refine seqq (o_y (y_binZ (v := .bool true) rfl rfl (fun _ => by rfl)) rfl ?_)
  refine c_nil ?_
  refine c_condT rfl ?_
  refine c_skip ?_
  refine c_seq ?_
  refine c_block ?_
  refine c_seq ?_
  refine c_region ?_
  refine seqq (o_y (y_move rfl) rfl ?_)
  refine seqq (o_y (y_move rfl) rfl ?_)
  refine seqq (o_y (y_move rfl) rfl ?_)
  refine seqq (o_y (y_binZ (v := .int .i64 0) rfl rfl (fun _ => by rfl)) rfl ?_)
  refine seqq (o_y (y_indexAddrA Tryz.runUnderlying51 Tryz.sizeOf49 rfl rfl (by decide)) rfl ?_)
  refine seqq (o_y (l1 Tryz.isAgg49 rfl (by rfl)) rfl ?_)
  refine seqq (o_y (y_move rfl) rfl ?_)
  refine seqq (o_y (y_shlB UK.u64 rfl rfl) rfl ?_)
  refine seqq (o_y (y_indexAddrA Tryz.runUnderlying51 Tryz.sizeOf49 rfl rfl (by decide)) rfl ?_)
  refine seqq (st1 (h1 := rfl) Tryz.sizeOf49 rfl rfl (by rfl) (by rfl) ?_)
  refine c_nil ?_
  refine c_seq ?_
  refine c_region ?_
  refine seqq (o_y (y_move rfl) rfl ?_)
  refine seqq (o_y (y_move rfl) rfl ?_)
  refine seqq (o_y (y_binZ (v := .bool false) rfl rfl (fun _ => by rfl)) rfl ?_)
  refine seqq (o_y (y_move rfl) rfl ?_)
  refine seqq (guard_false (c := false) rfl rfl rfl rfl ?_)
  refine seqq (guard_false (c := false) rfl rfl rfl rfl ?_)
  refine seqq (o_y (y_pick_f rfl rfl) rfl ?_)
  refine c_nil ?_
  refine c_condF rfl ?_
  refine c_skip ?_
  refine c_region ?_
  refine seqq (o_y (y_move rfl) rfl ?_)
  refine seqq (o_y (y_binZ (v := .int .i64 3) rfl rfl (fun _ => by rfl)) rfl ?_)
  refine seqq (o_y (y_assign rfl) rfl ?_)
  refine c_nil ?_
  refine c_round ?_
  refine c_seq ?_
  refine c_seq ?_
  refine c_region ?_
  refine seqq (o_y (y_move rfl) rfl ?_)
  refine seqq (o_y (y_binZ (v := .bool true) rfl rfl (fun _ => by rfl)) rfl ?_)
  refine c_nil ?_
  refine c_condT rfl ?_
  refine c_skip ?_
  refine c_seq ?_
  refine c_block ?_
  refine c_seq ?_
  refine c_region ?_
  refine seqq (o_y (y_move rfl) rfl ?_)
  refine seqq (o_y (y_move rfl) rfl ?_)
  refine seqq (o_y (y_move rfl) rfl ?_)
  refine seqq (o_y (y_binZ (v := .int .i64 1) rfl rfl (fun _ => by rfl)) rfl ?_)
  refine seqq (o_y (y_indexAddrA Tryz.runUnderlying51 Tryz.sizeOf49 rfl rfl (by decide)) rfl ?_)
  refine seqq (o_y (l1 Tryz.isAgg49 rfl (by rfl)) rfl ?_)
  refine seqq (o_y (y_move rfl) rfl ?_)
  refine seqq (o_y (y_shlB UK.u64 rfl rfl) rfl ?_)
  refine seqq (o_y (y_indexAddrA Tryz.runUnderlying51 Tryz.sizeOf49 rfl rfl (by decide)) rfl ?_)
  refine seqq (st1 (h1 := rfl) Tryz.sizeOf49 rfl rfl (by rfl) (by rfl) ?_)
  refine c_nil ?_
  refine c_seq ?_
  refine c_region ?_
  refine seqq (o_y (y_move rfl) rfl ?_)
  refine seqq (o_y (y_move rfl) rfl ?_)
  refine seqq (o_y (y_binZ (v := .bool true) rfl rfl (fun _ => by rfl)) rfl ?_)
  refine seqq (o_y (y_move rfl) rfl ?_)
  refine seqq (guard_true rfl rfl (o_y (y_move rfl) rfl ?_))
  refine seqq (guard_true rfl rfl (o_y (y_gtrZ rfl rfl) rfl ?_))
  refine j_re 47 rfl (decT (by omega)) ?_
  refine seqq (o_y (y_pick_t rfl rfl) rfl ?_)
  refine c_nil ?_
  refine c_condT rfl ?_
  refine d_reg 14 mixed rfl ?_
  refine d_y (i := 0) (k' := 1) rfl (by kernel_rfl) (y_move rfl) rfl ?_
  refine d_y (i := 1) (k' := 3) rfl (by kernel_rfl) (y_indexAddrA Tryz.runUnderlying51 Tryz.sizeOf49 rfl rfl (by decide)) rfl ?_
  refine d_s (i := 2) (k' := 7) rfl (by kernel_rfl) (by kernel_rfl) (l1 Tryz.isAgg49 rfl (by rfl)) hss rfl ?_
  refine d_y (i := 3) (k' := 15) rfl (by kernel_rfl) (y_move rfl) rfl ?_
  refine d_y (i := 4) (k' := 31) rfl (by kernel_rfl) (y_move rfl) rfl ?_
  refine d_y (i := 5) (k' := 63) rfl (by kernel_rfl) (y_binZ (v := .int .i64 1) rfl rfl (fun _ => by rfl)) rfl ?_
  refine d_y (i := 6) (k' := 127) rfl (by kernel_rfl) (y_binZ (v := .int .i64 0) rfl rfl (fun _ => by rfl)) rfl ?_
  refine d_y (i := 7) (k' := 255) rfl (by kernel_rfl) (y_indexAddrA Tryz.runUnderlying51 Tryz.sizeOf49 rfl rfl (by decide)) rfl ?_
  refine d_s (i := 8) (k' := 511) rfl (by kernel_rfl) (by kernel_rfl) (l1 Tryz.isAgg49 rfl (by rfl)) hss rfl ?_
  refine d_y (i := 9) (k' := 1023) rfl (by kernel_rfl) (y_move rfl) rfl ?_
  refine d_y (i := 10) (k' := 2047) rfl (by kernel_rfl) (y_subI rfl rfl (by omega)) rfl ?_
  refine j_re 59 rfl (show vI (64 - ((r : Nat) : Int)) = vI ((64 - r : Nat) : Int) from by congr 1; omega) ?_
  refine d_y (i := 11) (k' := 4095) rfl (by kernel_rfl) (y_shrB UK.u64 rfl rfl) rfl ?_
  refine d_y (i := 12) (k' := 8191) rfl (by kernel_rfl) (y_orB UK.u64 rfl rfl) rfl ?_
  refine d_y (i := 13) (k' := 16383) rfl (by kernel_rfl) (y_indexAddrA Tryz.runUnderlying51 Tryz.sizeOf49 rfl rfl (by decide)) rfl ?_
  refine d_e (i := 14) (k' := 32767) rfl (by kernel_rfl) (st1 (h1 := rfl) Tryz.sizeOf49 rfl rfl (by rfl) (by rfl) ( d_past rfl ?_))
  refine d_end (by kernel_rfl) ?_
  refine c_region ?_
  refine seqq (o_y (y_move rfl) rfl ?_)
  refine seqq (o_y (y_binZ (v := .int .i64 4) rfl rfl (fun _ => by rfl)) rfl ?_)
  refine seqq (o_y (y_assign rfl) rfl ?_)
  refine c_nil ?_
  refine c_round ?_
  refine c_seq ?_
  refine c_seq ?_
  refine c_region ?_
  refine seqq (o_y (y_move rfl) rfl ?_)
  refine seqq (o_y (y_binZ (v := .bool false) rfl rfl (fun _ => by rfl)) rfl ?_)
  refine c_nil ?_
  refine c_condF rfl ?_
  refine c_exit ?_
  refine c_seq ?_
  refine c_region ?_
  refine seqq (o_y (lN Tryz.isAgg51 Tryz.sizeOf51 rfl (by rfl)) rfl ?_)
  refine seqq (stN Tryz.sizeOf51 rfl rfl (by rfl) rfl (by rfl) ?_)
  refine c_nil ?_
  refine c_ret ?_
  refine c_done1 Tryz.results89 (rN Tryz.isAgg51 Tryz.sizeOf51 rfl (by rfl)) (fun w hS => ?_)
  exact ⟨rfl, hS.none⟩

theorem wide_Left_3_0 (a b c d : BitVec 64) (r : Nat) (hr : r < 64) (h0 : ¬ 0 < r) : Pure Tryz.prog 89 [vagg (wide a b c d), vI ((192 + r : Nat) : Int)] (vagg (wide 0#64 0#64 0#64 (a <<< r))) := by
  intro w
  refine begin0 Tryz.func89 rfl Tryz.ntmps89 rfl ?_
  refine c_seq ?_
  refine c_region ?_
  refine seqq (o_box (T := 51) rfl (IsP.agg).cells rfl (fun b2 => ?_))
  refine seqq (o_alloc (ps := [P1 (bv .u64 0#64), P1 (bv .u64 0#64), P1 (bv .u64 0#64), P1 (bv .u64 0#64)]) Tryz.zeroValue51 (by kernel_rfl) rfl (fun b4 => ?_))
  refine c_nil ?_
  refine c_seq ?_
  refine c_block ?_
  refine c_seq ?_
  refine c_region ?_
  refine seqq (o_y (y_move rfl) rfl ?_)
  refine seqq (o_y (y_leqZ rfl rfl) rfl ?_)
  refine j_re 11 rfl (decF (by omega)) ?_
  refine seqq (o_y (y_move rfl) rfl ?_)
  refine seqq (guard_true rfl rfl (o_y (y_move rfl) rfl ?_))
  refine seqq (guard_true rfl rfl (o_y (y_geqZ rfl rfl) rfl ?_))
  refine j_re 14 rfl (decF (by omega)) ?_
  refine seqq (o_y (y_pick_f rfl rfl) rfl ?_)
  refine seqq (o_y (y_assign rfl) rfl ?_)
  refine c_nil ?_
  refine c_condF rfl ?_
  refine c_seq ?_
  refine c_region ?_
  refine seqq (o_y (y_move rfl) rfl ?_)
  refine seqq (o_y (y_lssZ rfl rfl) rfl ?_)
  refine j_re 19 rfl (decF (by omega)) ?_
  refine seqq (o_y (y_assign rfl) rfl ?_)
  refine c_nil ?_
  refine c_condF rfl ?_
  refine c_skip ?_
  refine c_seq ?_
  refine c_region ?_
  refine seqq (o_alloc (ps := [P1 (bv .u64 0#64), P1 (bv .u64 0#64), P1 (bv .u64 0#64), P1 (bv .u64 0#64)]) Tryz.zeroValue51 (by kernel_rfl) rfl (fun b5 => ?_))
  refine c_nil ?_
  refine c_seq ?_
  refine c_region ?_
  refine seqq (o_y (y_move rfl) rfl ?_)
  refine seqq (o_y (y_quoI rfl rfl (by omega)) rfl ?_)
  refine j_re 25 rfl (show vI (((192 + r : Nat) : Int) / 64) = vI 3 from by congr 1; omega) ?_
  refine seqq (o_y (y_move rfl) rfl ?_)
  refine seqq (o_y (y_remI rfl rfl (by omega)) rfl ?_)
  refine j_re 27 rfl (show vI (((192 + r : Nat) : Int) % 64) = vI ((r : Nat) : Int) from by congr 1; omega) ?_
  refine seqq (o_y (y_assign rfl) rfl ?_)
  refine seqq (o_y (y_assign rfl) rfl ?_)
  refine c_nil ?_
  refine c_seq ?_
  refine c_seq ?_
  refine c_region ?_
  refine seqq (o_y (y_move rfl) rfl ?_)
  refine seqq (o_y (y_assign rfl) rfl ?_)
  refine c_nil ?_
  refine c_block ?_
  refine c_loop 5 ?_
  refine c_round ?_
  refine c_seq ?_
  refine c_seq ?_
  refine c_region ?_
  refine seqq (o_y (y_move rfl) rfl ?_)
  refine seqq (o_y (y_binZ (v := .bool true) rfl rfl (fun _ => by rfl)) rfl ?_)
  refine c_nil ?_
  refine c_condT rfl ?_
  refine c_skip ?_
  refine c_seq ?_
  refine c_block ?_
  refine c_seq ?_
  refine c_region ?_
  refine seqq (o_y (y_move rfl) rfl ?_)
  refine seqq (o_y (y_move rfl) rfl ?_)
  refine seqq (o_y (y_move rfl) rfl ?_)
  refine seqq (o_y (y_binZ (v := .int .i64 0) rfl rfl (fun _ => by rfl)) rfl ?_)
  refine seqq (o_y (y_indexAddrA Tryz.runUnderlying51 Tryz.sizeOf49 rfl rfl (by decide)) rfl ?_)
  refine seqq (o_y (l1 Tryz.isAgg49 rfl (by rfl)) rfl ?_)
  refine seqq (o_y (y_move rfl) rfl ?_)
  refine seqq (o_y (y_shlB UK.u64 rfl rfl) rfl ?_)
  refine seqq (o_y (y_indexAddrA Tryz.runUnderlying51 Tryz.sizeOf49 rfl rfl (by decide)) rfl ?_)
  refine seqq (st1 (h1 := rfl) Tryz.sizeOf49 rfl rfl (by rfl) (by rfl) ?_)
  refine c_nil ?_
  refine c_seq ?_
  refine c_region ?_
  refine seqq (o_y (y_move rfl) rfl ?_)
  refine seqq (o_y (y_move rfl) rfl ?_)
  refine seqq (o_y (y_binZ (v := .bool false) rfl rfl (fun _ => by rfl)) rfl ?_)
  refine seqq (o_y (y_move rfl) rfl ?_)
  refine seqq (guard_false (c := false) rfl rfl rfl rfl ?_)
  refine seqq (guard_false (c := false) rfl rfl rfl rfl ?_)
  refine seqq (o_y (y_pick_f rfl rfl) rfl ?_)
  refine c_nil ?_
  refine c_condF rfl ?_
  refine c_skip ?_
  refine c_region ?_
  refine seqq (o_y (y_move rfl) rfl ?_)
  refine seqq (o_y (y_binZ (v := .int .i64 4) rfl rfl (fun _ => by rfl)) rfl ?_)
  refine seqq (o_y (y_assign rfl) rfl ?_)
  refine c_nil ?_
  refine c_round ?_
  refine c_seq ?_
  refine c_seq ?_
  refine c_region ?_
  refine seqq (o_y (y_move rfl) rfl ?_)
  refine seqq (o_y (y_binZ (v := .bool false) rfl rfl (fun _ => by rfl)) rfl ?_)
  refine c_nil ?_
  refine c_condF rfl ?_
  refine c_exit ?_
  refine c_seq ?_
  refine c_region ?_
  refine seqq (o_y (lN Tryz.isAgg51 Tryz.sizeOf51 rfl (by rfl)) rfl ?_)
  refine seqq (stN Tryz.sizeOf51 rfl rfl (by rfl) rfl (by rfl) ?_)
  refine c_nil ?_
  refine c_ret ?_
  refine c_done1 Tryz.results89 (rN Tryz.isAgg51 Tryz.sizeOf51 rfl (by rfl)) (fun w hS => ?_)
  exact ⟨rfl, hS.none⟩

theorem wide_Left_3_1 (a b c d : BitVec 64) (r : Nat) (hr : r < 64) (h0 : 0 < r) : Pure Tryz.prog 89 [vagg (wide a b c d), vI ((192 + r : Nat) : Int)] (vagg (wide 0#64 0#64 0#64 (a <<< r))) := by
  intro w
  refine begin0 Tryz.func89 rfl Tryz.ntmps89 rfl ?_
  refine c_seq ?_
  refine c_region ?_
  refine seqq (o_box (T := 51) rfl (IsP.agg).cells rfl (fun b2 => ?_))
  refine seqq (o_alloc (ps := [P1 (bv .u64 0#64), P1 (bv .u64 0#64), P1 (bv .u64 0#64), P1 (bv .u64 0#64)]) Tryz.zeroValue51 (by kernel_rfl) rfl (fun b4 => ?_))
  refine c_nil ?_
  refine c_seq ?_
  refine c_block ?_
  refine c_seq ?_
  refine c_region ?_
  refine seqq (o_y (y_move rfl) rfl ?_)
  refine seqq (o_y (y_leqZ rfl rfl) rfl ?_)
  refine j_re 11 rfl (decF (by omega)) ?_
  refine seqq (o_y (y_move rfl) rfl ?_)
  refine seqq (guard_true rfl rfl (o_y (y_move rfl) rfl ?_))
  refine seqq (guard_true rfl rfl (o_y (y_geqZ rfl rfl) rfl ?_))
  refine j_re 14 rfl (decF (by omega)) ?_
  refine seqq (o_y (y_pick_f rfl rfl) rfl ?_)
  refine seqq (o_y (y_assign rfl) rfl ?_)
  refine c_nil ?_
  refine c_condF rfl ?_
  refine c_seq ?_
  refine c_region ?_
  refine seqq (o_y (y_move rfl) rfl ?_)
  refine seqq (o_y (y_lssZ rfl rfl) rfl ?_)
  refine j_re 19 rfl (decF (by omega)) ?_
  refine seqq (o_y (y_assign rfl) rfl ?_)
  refine c_nil ?_
  refine c_condF rfl ?_
  refine c_skip ?_
  refine c_seq ?_
  refine c_region ?_
  refine seqq (o_alloc (ps := [P1 (bv .u64 0#64), P1 (bv .u64 0#64), P1 (bv .u64 0#64), P1 (bv .u64 0#64)]) Tryz.zeroValue51 (by kernel_rfl) rfl (fun b5 => ?_))
  refine c_nil ?_
  refine c_seq ?_
  refine c_region ?_
  refine seqq (o_y (y_move rfl) rfl ?_)
  refine seqq (o_y (y_quoI rfl rfl (by omega)) rfl ?_)
  refine j_re 25 rfl (show vI (((192 + r : Nat) : Int) / 64) = vI 3 from by congr 1; omega) ?_
  refine seqq (o_y (y_move rfl) rfl ?_)
  refine seqq (o_y (y_remI rfl rfl (by omega)) rfl ?_)
  refine j_re 27 rfl (show vI (((192 + r : Nat) : Int) % 64) = vI ((r : Nat) : Int) from by congr 1; omega) ?_
  refine seqq (o_y (y_assign rfl) rfl ?_)
  refine seqq (o_y (y_assign rfl) rfl ?_)
  refine c_nil ?_
  refine c_seq ?_
  refine c_seq ?_
  refine c_region ?_
  refine seqq (o_y (y_move rfl) rfl ?_)
  refine seqq (o_y (y_assign rfl) rfl ?_)
  refine c_nil ?_
  refine c_block ?_
  refine c_loop 5 ?_
  refine c_round ?_
  refine c_seq ?_
  refine c_seq ?_
  refine c_region ?_
  refine seqq (o_y (y_move rfl) rfl ?_)
  refine seqq (o_y (y_binZ (v := .bool true) rfl rfl (fun _ => by rfl)) rfl ?_)
  refine c_nil ?_
  refine c_condT rfl ?_
  refine c_skip ?_
  refine c_seq ?_
  refine c_block ?_
  refine c_seq ?_
  refine c_region ?_
  refine seqq (o_y (y_move rfl) rfl ?_)
  refine seqq (o_y (y_move rfl) rfl ?_)
  refine seqq (o_y (y_move rfl) rfl ?_)
  refine seqq (o_y (y_binZ (v := .int .i64 0) rfl rfl (fun _ => by rfl)) rfl ?_)
  refine seqq (o_y (y_indexAddrA Tryz.runUnderlying51 Tryz.sizeOf49 rfl rfl (by decide)) rfl ?_)
  refine seqq (o_y (l1 Tryz.isAgg49 rfl (by rfl)) rfl ?_)
  refine seqq (o_y (y_move rfl) rfl ?_)
  refine seqq (o_y (y_shlB UK.u64 rfl rfl) rfl ?_)
  refine seqq (o_y (y_indexAddrA Tryz.runUnderlying51 Tryz.sizeOf49 rfl rfl (by decide)) rfl ?_)
  refine seqq (st1 (h1 := rfl) Tryz.sizeOf49 rfl rfl (by rfl) (by rfl) ?_)
  refine c_nil ?_
  refine c_seq ?_
  refine c_region ?_
  refine seqq (o_y (y_move rfl) rfl ?_)
  refine seqq (o_y (y_move rfl) rfl ?_)
  refine seqq (o_y (y_binZ (v := .bool false) rfl rfl (fun _ => by rfl)) rfl ?_)
  refine seqq (o_y (y_move rfl) rfl ?_)
  refine seqq (guard_false (c := false) rfl rfl rfl rfl ?_)
  refine seqq (guard_false (c := false) rfl rfl rfl rfl ?_)
  refine seqq (o_y (y_pick_f rfl rfl) rfl ?_)
  refine c_nil ?_
  refine c_condF rfl ?_
  refine c_skip ?_
  refine c_region ?_
  refine seqq (o_y (y_move rfl) rfl ?_)
  refine seqq (o_y (y_binZ (v := .int .i64 4) rfl rfl (fun _ => by rfl)) rfl ?_)
  refine seqq (o_y (y_assign rfl) rfl ?_)
  refine c_nil ?_
  refine c_round ?_
  refine c_seq ?_
  refine c_seq ?_
  refine c_region ?_
  refine seqq (o_y (y_move rfl) rfl ?_)
  refine seqq (o_y (y_binZ (v := .bool false) rfl rfl (fun _ => by rfl)) rfl ?_)
  refine c_nil ?_
  refine c_condF rfl ?_
  refine c_exit ?_
  refine c_seq ?_
  refine c_region ?_
  refine seqq (o_y (lN Tryz.isAgg51 Tryz.sizeOf51 rfl (by rfl)) rfl ?_)
  refine seqq (stN Tryz.sizeOf51 rfl rfl (by rfl) rfl (by rfl) ?_)
  refine c_nil ?_
  refine c_ret ?_
  refine c_done1 Tryz.results89 (rN Tryz.isAgg51 Tryz.sizeOf51 rfl (by rfl)) (fun w hS => ?_)
  exact ⟨rfl, hS.none⟩

/-! ### shifts, as numbers -/

theorem left_num_0_0 (a b c d : BitVec 64) (r : Nat) (hr : r < 64) (h0 : ¬ 0 < r) : wn (a <<< r) (b <<< r) (c <<< r) (d <<< r) = wn a b c d * 2 ^ (64 * 0 + r) % M256 := by
  have hr0 : r = 0 := by omega
  have h := left_words a b c d r hr (a <<< r).toNat (b <<< r).toNat (c <<< r).toNat (d <<< r).toNat rfl (by subst hr0; rw [sr64]; rfl) (by subst hr0; rw [sr64]; rfl) (by subst hr0; rw [sr64]; rfl)
  rw [up_words _ _ _ _ _ _ 0 r _ h rfl (BitVec.isLt _) (BitVec.isLt _) (BitVec.isLt _) (BitVec.isLt _)]
  rfl

theorem left_num_0_1 (a b c d : BitVec 64) (r : Nat) (hr : r < 64) (h0 : 0 < r) : wn (a <<< r) ((b <<< r) ||| (a >>> (64 - r))) ((c <<< r) ||| (b >>> (64 - r))) ((d <<< r) ||| (c >>> (64 - r))) = wn a b c d * 2 ^ (64 * 0 + r) % M256 := by
  have h := left_words a b c d r hr (a <<< r).toNat ((b <<< r) ||| (a >>> (64 - r))).toNat ((c <<< r) ||| (b >>> (64 - r))).toNat ((d <<< r) ||| (c >>> (64 - r))).toNat rfl (shl_or b a r hr h0) (shl_or c b r hr h0) (shl_or d c r hr h0)
  rw [up_words _ _ _ _ _ _ 0 r _ h rfl (BitVec.isLt _) (BitVec.isLt _) (BitVec.isLt _) (BitVec.isLt _)]
  rfl

theorem left_num_1_0 (a b c d : BitVec 64) (r : Nat) (hr : r < 64) (h0 : ¬ 0 < r) : wn 0#64 (a <<< r) (b <<< r) (c <<< r) = wn a b c d * 2 ^ (64 * 1 + r) % M256 := by
  have hr0 : r = 0 := by omega
  have h := left_words a b c d r hr (a <<< r).toNat (b <<< r).toNat (c <<< r).toNat (d <<< r).toNat rfl (by subst hr0; rw [sr64]; rfl) (by subst hr0; rw [sr64]; rfl) (by subst hr0; rw [sr64]; rfl)
  rw [up_words _ _ _ _ _ _ 1 r _ h rfl (BitVec.isLt _) (BitVec.isLt _) (BitVec.isLt _) (BitVec.isLt _)]
  rfl

theorem left_num_1_1 (a b c d : BitVec 64) (r : Nat) (hr : r < 64) (h0 : 0 < r) : wn 0#64 (a <<< r) ((b <<< r) ||| (a >>> (64 - r))) ((c <<< r) ||| (b >>> (64 - r))) = wn a b c d * 2 ^ (64 * 1 + r) % M256 := by
  have h := left_words a b c d r hr (a <<< r).toNat ((b <<< r) ||| (a >>> (64 - r))).toNat ((c <<< r) ||| (b >>> (64 - r))).toNat ((d <<< r) ||| (c >>> (64 - r))).toNat rfl (shl_or b a r hr h0) (shl_or c b r hr h0) (shl_or d c r hr h0)
  rw [up_words _ _ _ _ _ _ 1 r _ h rfl (BitVec.isLt _) (BitVec.isLt _) (BitVec.isLt _) (BitVec.isLt _)]
  rfl

theorem left_num_2_0 (a b c d : BitVec 64) (r : Nat) (hr : r < 64) (h0 : ¬ 0 < r) : wn 0#64 0#64 (a <<< r) (b <<< r) = wn a b c d * 2 ^ (64 * 2 + r) % M256 := by
  have hr0 : r = 0 := by omega
  have h := left_words a b c d r hr (a <<< r).toNat (b <<< r).toNat (c <<< r).toNat (d <<< r).toNat rfl (by subst hr0; rw [sr64]; rfl) (by subst hr0; rw [sr64]; rfl) (by subst hr0; rw [sr64]; rfl)
  rw [up_words _ _ _ _ _ _ 2 r _ h rfl (BitVec.isLt _) (BitVec.isLt _) (BitVec.isLt _) (BitVec.isLt _)]
  rfl

theorem left_num_2_1 (a b c d : BitVec 64) (r : Nat) (hr : r < 64) (h0 : 0 < r) : wn 0#64 0#64 (a <<< r) ((b <<< r) ||| (a >>> (64 - r))) = wn a b c d * 2 ^ (64 * 2 + r) % M256 := by
  have h := left_words a b c d r hr (a <<< r).toNat ((b <<< r) ||| (a >>> (64 - r))).toNat ((c <<< r) ||| (b >>> (64 - r))).toNat ((d <<< r) ||| (c >>> (64 - r))).toNat rfl (shl_or b a r hr h0) (shl_or c b r hr h0) (shl_or d c r hr h0)
  rw [up_words _ _ _ _ _ _ 2 r _ h rfl (BitVec.isLt _) (BitVec.isLt _) (BitVec.isLt _) (BitVec.isLt _)]
  rfl

theorem left_num_3_0 (a b c d : BitVec 64) (r : Nat) (hr : r < 64) (h0 : ¬ 0 < r) : wn 0#64 0#64 0#64 (a <<< r) = wn a b c d * 2 ^ (64 * 3 + r) % M256 := by
  have hr0 : r = 0 := by omega
  have h := left_words a b c d r hr (a <<< r).toNat (b <<< r).toNat (c <<< r).toNat (d <<< r).toNat rfl (by subst hr0; rw [sr64]; rfl) (by subst hr0; rw [sr64]; rfl) (by subst hr0; rw [sr64]; rfl)
  rw [up_words _ _ _ _ _ _ 3 r _ h rfl (BitVec.isLt _) (BitVec.isLt _) (BitVec.isLt _) (BitVec.isLt _)]
  rfl

theorem left_num_3_1 (a b c d : BitVec 64) (r : Nat) (hr : r < 64) (h0 : 0 < r) : wn 0#64 0#64 0#64 (a <<< r) = wn a b c d * 2 ^ (64 * 3 + r) % M256 := by
  have h := left_words a b c d r hr (a <<< r).toNat ((b <<< r) ||| (a >>> (64 - r))).toNat ((c <<< r) ||| (b >>> (64 - r))).toNat ((d <<< r) ||| (c >>> (64 - r))).toNat rfl (shl_or b a r hr h0) (shl_or c b r hr h0) (shl_or d c r hr h0)
  rw [up_words _ _ _ _ _ _ 3 r _ h rfl (BitVec.isLt _) (BitVec.isLt _) (BitVec.isLt _) (BitVec.isLt _)]
  rfl

theorem right_num_0_0 (a b c d : BitVec 64) (r : Nat) (hr : r < 64) (h0 : ¬ 0 < r) : wn (a >>> r) (b >>> r) (c >>> r) (d >>> r) = wn a b c d / 2 ^ (64 * 0 + r) := by
  have hr0 : r = 0 := by omega
  have h : w4 (a >>> r).toNat (b >>> r).toNat (c >>> r).toNat (d >>> r).toNat = wn a b c d / 2 ^ r := by subst hr0; simp [wn_w4]
  rw [down_words _ _ _ _ 0 r _ h (BitVec.isLt _) (BitVec.isLt _) (BitVec.isLt _) (BitVec.isLt _)]
  rfl

theorem right_num_0_1 (a b c d : BitVec 64) (r : Nat) (hr : r < 64) (h0 : 0 < r) : wn ((a >>> r) ||| (b <<< (64 - r))) ((b >>> r) ||| (c <<< (64 - r))) ((c >>> r) ||| (d <<< (64 - r))) (d >>> r) = wn a b c d / 2 ^ (64 * 0 + r) := by
  have h := right_words a b c d r hr h0 ((a >>> r) ||| (b <<< (64 - r))).toNat ((b >>> r) ||| (c <<< (64 - r))).toNat ((c >>> r) ||| (d <<< (64 - r))).toNat (d >>> r).toNat (shr_or a b r hr h0) (shr_or b c r hr h0) (shr_or c d r hr h0) rfl
  rw [down_words _ _ _ _ 0 r _ h (BitVec.isLt _) (BitVec.isLt _) (BitVec.isLt _) (BitVec.isLt _)]
  rfl

theorem right_num_1_0 (a b c d : BitVec 64) (r : Nat) (hr : r < 64) (h0 : ¬ 0 < r) : wn (b >>> r) (c >>> r) (d >>> r) 0#64 = wn a b c d / 2 ^ (64 * 1 + r) := by
  have hr0 : r = 0 := by omega
  have h : w4 (a >>> r).toNat (b >>> r).toNat (c >>> r).toNat (d >>> r).toNat = wn a b c d / 2 ^ r := by subst hr0; simp [wn_w4]
  rw [down_words _ _ _ _ 1 r _ h (BitVec.isLt _) (BitVec.isLt _) (BitVec.isLt _) (BitVec.isLt _)]
  rfl

theorem right_num_1_1 (a b c d : BitVec 64) (r : Nat) (hr : r < 64) (h0 : 0 < r) : wn ((b >>> r) ||| (c <<< (64 - r))) ((c >>> r) ||| (d <<< (64 - r))) (d >>> r) 0#64 = wn a b c d / 2 ^ (64 * 1 + r) := by
  have h := right_words a b c d r hr h0 ((a >>> r) ||| (b <<< (64 - r))).toNat ((b >>> r) ||| (c <<< (64 - r))).toNat ((c >>> r) ||| (d <<< (64 - r))).toNat (d >>> r).toNat (shr_or a b r hr h0) (shr_or b c r hr h0) (shr_or c d r hr h0) rfl
  rw [down_words _ _ _ _ 1 r _ h (BitVec.isLt _) (BitVec.isLt _) (BitVec.isLt _) (BitVec.isLt _)]
  rfl

theorem right_num_2_0 (a b c d : BitVec 64) (r : Nat) (hr : r < 64) (h0 : ¬ 0 < r) : wn (c >>> r) (d >>> r) 0#64 0#64 = wn a b c d / 2 ^ (64 * 2 + r) := by
  have hr0 : r = 0 := by omega
  have h : w4 (a >>> r).toNat (b >>> r).toNat (c >>> r).toNat (d >>> r).toNat = wn a b c d / 2 ^ r := by subst hr0; simp [wn_w4]
  rw [down_words _ _ _ _ 2 r _ h (BitVec.isLt _) (BitVec.isLt _) (BitVec.isLt _) (BitVec.isLt _)]
  rfl

theorem right_num_2_1 (a b c d : BitVec 64) (r : Nat) (hr : r < 64) (h0 : 0 < r) : wn ((c >>> r) ||| (d <<< (64 - r))) (d >>> r) 0#64 0#64 = wn a b c d / 2 ^ (64 * 2 + r) := by
  have h := right_words a b c d r hr h0 ((a >>> r) ||| (b <<< (64 - r))).toNat ((b >>> r) ||| (c <<< (64 - r))).toNat ((c >>> r) ||| (d <<< (64 - r))).toNat (d >>> r).toNat (shr_or a b r hr h0) (shr_or b c r hr h0) (shr_or c d r hr h0) rfl
  rw [down_words _ _ _ _ 2 r _ h (BitVec.isLt _) (BitVec.isLt _) (BitVec.isLt _) (BitVec.isLt _)]
  rfl

theorem right_num_3_0 (a b c d : BitVec 64) (r : Nat) (hr : r < 64) (h0 : ¬ 0 < r) : wn (d >>> r) 0#64 0#64 0#64 = wn a b c d / 2 ^ (64 * 3 + r) := by
  have hr0 : r = 0 := by omega
  have h : w4 (a >>> r).toNat (b >>> r).toNat (c >>> r).toNat (d >>> r).toNat = wn a b c d / 2 ^ r := by subst hr0; simp [wn_w4]
  rw [down_words _ _ _ _ 3 r _ h (BitVec.isLt _) (BitVec.isLt _) (BitVec.isLt _) (BitVec.isLt _)]
  rfl

theorem right_num_3_1 (a b c d : BitVec 64) (r : Nat) (hr : r < 64) (h0 : 0 < r) : wn (d >>> r) 0#64 0#64 0#64 = wn a b c d / 2 ^ (64 * 3 + r) := by
  have h := right_words a b c d r hr h0 ((a >>> r) ||| (b <<< (64 - r))).toNat ((b >>> r) ||| (c <<< (64 - r))).toNat ((c >>> r) ||| (d <<< (64 - r))).toNat (d >>> r).toNat (shr_or a b r hr h0) (shr_or b c r hr h0) (shr_or c d r hr h0) rfl
  rw [down_words _ _ _ _ 3 r _ h (BitVec.isLt _) (BitVec.isLt _) (BitVec.isLt _) (BitVec.isLt _)]
  rfl

theorem wide_LeftS (n m : Nat) (hn : n < M256) (hm : m < 256) : Pure Tryz.prog 89 [vW n, vI (m : Int)] (vW (n * 2 ^ m % M256)) := by
  obtain ⟨w, r, hr, hw⟩ : ∃ w r, r < 64 ∧ m = 64 * w + r := ⟨m / 64, m % 64, by omega, by omega⟩
  subst hw
  have : w = 0 ∨ w = 1 ∨ w = 2 ∨ w = 3 := by omega
  rcases this with rfl | rfl | rfl | rfl
  · by_cases h0 : 0 < r
    · exact (wide_Left_0_1 _ _ _ _ r hr h0).to (vW_eq (by rw [left_num_0_1 _ _ _ _ r hr h0, wn_nw hn]))
    · exact (wide_Left_0_0 _ _ _ _ r hr h0).to (vW_eq (by rw [left_num_0_0 _ _ _ _ r hr h0, wn_nw hn]))
  · by_cases h0 : 0 < r
    · exact (wide_Left_1_1 _ _ _ _ r hr h0).to (vW_eq (by rw [left_num_1_1 _ _ _ _ r hr h0, wn_nw hn]))
    · exact (wide_Left_1_0 _ _ _ _ r hr h0).to (vW_eq (by rw [left_num_1_0 _ _ _ _ r hr h0, wn_nw hn]))
  · by_cases h0 : 0 < r
    · exact (wide_Left_2_1 _ _ _ _ r hr h0).to (vW_eq (by rw [left_num_2_1 _ _ _ _ r hr h0, wn_nw hn]))
    · exact (wide_Left_2_0 _ _ _ _ r hr h0).to (vW_eq (by rw [left_num_2_0 _ _ _ _ r hr h0, wn_nw hn]))
  · by_cases h0 : 0 < r
    · exact (wide_Left_3_1 _ _ _ _ r hr h0).to (vW_eq (by rw [left_num_3_1 _ _ _ _ r hr h0, wn_nw hn]))
    · exact (wide_Left_3_0 _ _ _ _ r hr h0).to (vW_eq (by rw [left_num_3_0 _ _ _ _ r hr h0, wn_nw hn]))

theorem wide_RightS (n m : Nat) (hn : n < M256) (hm : m < 256) : Pure Tryz.prog 113 [vW n, vI (m : Int)] (vW (n / 2 ^ m)) := by
  obtain ⟨w, r, hr, hw⟩ : ∃ w r, r < 64 ∧ m = 64 * w + r := ⟨m / 64, m % 64, by omega, by omega⟩
  subst hw
  have : w = 0 ∨ w = 1 ∨ w = 2 ∨ w = 3 := by omega
  rcases this with rfl | rfl | rfl | rfl
  · by_cases h0 : 0 < r
    · exact (wide_Right_0_1 _ _ _ _ r hr h0).to (vW_eq (by rw [right_num_0_1 _ _ _ _ r hr h0, wn_nw hn]))
    · exact (wide_Right_0_0 _ _ _ _ r hr h0).to (vW_eq (by rw [right_num_0_0 _ _ _ _ r hr h0, wn_nw hn]))
  · by_cases h0 : 0 < r
    · exact (wide_Right_1_1 _ _ _ _ r hr h0).to (vW_eq (by rw [right_num_1_1 _ _ _ _ r hr h0, wn_nw hn]))
    · exact (wide_Right_1_0 _ _ _ _ r hr h0).to (vW_eq (by rw [right_num_1_0 _ _ _ _ r hr h0, wn_nw hn]))
  · by_cases h0 : 0 < r
    · exact (wide_Right_2_1 _ _ _ _ r hr h0).to (vW_eq (by rw [right_num_2_1 _ _ _ _ r hr h0, wn_nw hn]))
    · exact (wide_Right_2_0 _ _ _ _ r hr h0).to (vW_eq (by rw [right_num_2_0 _ _ _ _ r hr h0, wn_nw hn]))
  · by_cases h0 : 0 < r
    · exact (wide_Right_3_1 _ _ _ _ r hr h0).to (vW_eq (by rw [right_num_3_1 _ _ _ _ r hr h0, wn_nw hn]))
    · exact (wide_Right_3_0 _ _ _ _ r hr h0).to (vW_eq (by rw [right_num_3_0 _ _ _ _ r hr h0, wn_nw hn]))

theorem wide_LeftB (n : Nat) (m : Int) (hm : 256 ≤ m) : Pure Tryz.prog 89 [vW n, vI m] (vW 0) := by
  intro w
  refine begin0 Tryz.func89 rfl Tryz.ntmps89 rfl ?_
  refine c_seq ?_
  refine c_region ?_
  refine seqq (o_box (T := 51) rfl (IsP.agg).cells rfl (fun b2 => ?_))
  refine seqq (o_alloc (ps := [P1 (bv .u64 0#64), P1 (bv .u64 0#64), P1 (bv .u64 0#64), P1 (bv .u64 0#64)]) Tryz.zeroValue51 (by kernel_rfl) rfl (fun b4 => ?_))
  refine c_nil ?_
  refine c_seq ?_
  refine c_block ?_
  refine c_seq ?_
  refine c_region ?_
  refine seqq (o_y (y_move rfl) rfl ?_)
  refine seqq (o_y (y_leqZ rfl rfl) rfl ?_)
  refine j_re 11 rfl (decF (by omega)) ?_
  refine seqq (o_y (y_move rfl) rfl ?_)
  refine seqq (guard_true rfl rfl (o_y (y_move rfl) rfl ?_))
  refine seqq (guard_true rfl rfl (o_y (y_geqZ rfl rfl) rfl ?_))
  refine j_re 14 rfl (decT (by omega)) ?_
  refine seqq (o_y (y_pick_f rfl rfl) rfl ?_)
  refine seqq (o_y (y_assign rfl) rfl ?_)
  refine c_nil ?_
  refine c_condT rfl ?_
  refine c_seq ?_
  refine c_region ?_
  refine seqq (o_y (y_buildA (zs := [P1 (bv .u64 0#64), P1 (bv .u64 0#64), P1 (bv .u64 0#64), P1 (bv .u64 0#64)]) Tryz.runUnderlying51 Tryz.sizeOf49 Tryz.zeroValue51 (by kernel_rfl) .nil (by rfl)) rfl ?_)
  refine seqq (stN Tryz.sizeOf51 rfl rfl (by rfl) rfl (by rfl) ?_)
  refine c_nil ?_
  refine c_ret ?_
  refine c_done1 Tryz.results89 (rN Tryz.isAgg51 Tryz.sizeOf51 rfl (by rfl)) (fun w hS => ?_)
  exact ⟨rfl, hS.none⟩

theorem wide_LeftL (n : Nat) (m : Int) (hm : m ≤ -256) : Pure Tryz.prog 89 [vW n, vI m] (vW 0) := by
  intro w
  refine begin0 Tryz.func89 rfl Tryz.ntmps89 rfl ?_
  refine c_seq ?_
  refine c_region ?_
  refine seqq (o_box (T := 51) rfl (IsP.agg).cells rfl (fun b2 => ?_))
  refine seqq (o_alloc (ps := [P1 (bv .u64 0#64), P1 (bv .u64 0#64), P1 (bv .u64 0#64), P1 (bv .u64 0#64)]) Tryz.zeroValue51 (by kernel_rfl) rfl (fun b4 => ?_))
  refine c_nil ?_
  refine c_seq ?_
  refine c_block ?_
  refine c_seq ?_
  refine c_region ?_
  refine seqq (o_y (y_move rfl) rfl ?_)
  refine seqq (o_y (y_leqZ rfl rfl) rfl ?_)
  refine j_re 11 rfl (decT (by omega)) ?_
  refine seqq (o_y (y_move rfl) rfl ?_)
  refine seqq (guard_false (c := true) rfl rfl rfl rfl ?_)
  refine seqq (guard_false (c := true) rfl rfl rfl rfl ?_)
  refine seqq (o_y (y_pick_t rfl rfl) rfl ?_)
  refine seqq (o_y (y_assign rfl) rfl ?_)
  refine c_nil ?_
  refine c_condT rfl ?_
  refine c_seq ?_
  refine c_region ?_
  refine seqq (o_y (y_buildA (zs := [P1 (bv .u64 0#64), P1 (bv .u64 0#64), P1 (bv .u64 0#64), P1 (bv .u64 0#64)]) Tryz.runUnderlying51 Tryz.sizeOf49 Tryz.zeroValue51 (by kernel_rfl) .nil (by rfl)) rfl ?_)
  refine seqq (stN Tryz.sizeOf51 rfl rfl (by rfl) rfl (by rfl) ?_)
  refine c_nil ?_
  refine c_ret ?_
  refine c_done1 Tryz.results89 (rN Tryz.isAgg51 Tryz.sizeOf51 rfl (by rfl)) (fun w hS => ?_)
  exact ⟨rfl, hS.none⟩

theorem wide_LeftN (n m : Nat) (hn : n < M256) (hm : m < 256) (h0 : 0 < m) : Pure Tryz.prog 89 [vW n, vI (-(m : Int))] (vW (n / 2 ^ m)) := by
  intro w
  refine begin0 Tryz.func89 rfl Tryz.ntmps89 rfl ?_
  refine c_seq ?_
  refine c_region ?_
  refine seqq (o_box (T := 51) rfl (IsP.agg).cells rfl (fun b2 => ?_))
  refine seqq (o_alloc (ps := [P1 (bv .u64 0#64), P1 (bv .u64 0#64), P1 (bv .u64 0#64), P1 (bv .u64 0#64)]) Tryz.zeroValue51 (by kernel_rfl) rfl (fun b4 => ?_))
  refine c_nil ?_
  refine c_seq ?_
  refine c_block ?_
  refine c_seq ?_
  refine c_region ?_
  refine seqq (o_y (y_move rfl) rfl ?_)
  refine seqq (o_y (y_leqZ rfl rfl) rfl ?_)
  refine j_re 11 rfl (decF (by omega)) ?_
  refine seqq (o_y (y_move rfl) rfl ?_)
  refine seqq (guard_true rfl rfl (o_y (y_move rfl) rfl ?_))
  refine seqq (guard_true rfl rfl (o_y (y_geqZ rfl rfl) rfl ?_))
  refine j_re 14 rfl (decF (by omega)) ?_
  refine seqq (o_y (y_pick_f rfl rfl) rfl ?_)
  refine seqq (o_y (y_assign rfl) rfl ?_)
  refine c_nil ?_
  refine c_condF rfl ?_
  refine c_seq ?_
  refine c_region ?_
  refine seqq (o_y (y_move rfl) rfl ?_)
  refine seqq (o_y (y_lssZ rfl rfl) rfl ?_)
  refine j_re 19 rfl (decT (by omega)) ?_
  refine seqq (o_y (y_assign rfl) rfl ?_)
  refine c_nil ?_
  refine c_condT rfl ?_
  refine c_seq ?_
  refine c_region ?_
  refine seqq (o_y (lN Tryz.isAgg51 Tryz.sizeOf51 rfl (by rfl)) rfl ?_)
  refine seqq (o_y (y_move rfl) rfl ?_)
  refine seqq (o_y (y_negI rfl (by omega)) rfl ?_)
  refine j_re 22 rfl (show vI (-(-(m : Int))) = vI (m : Int) from by congr 1; omega) ?_
  refine seqq (o_pure Tryz.call113 rfl (wide_RightS n m hn hm) rfl ?_)
  refine seqq (stN Tryz.sizeOf51 rfl rfl (by rfl) rfl (by rfl) ?_)
  refine c_nil ?_
  refine c_ret ?_
  refine c_done1 Tryz.results89 (rN Tryz.isAgg51 Tryz.sizeOf51 rfl (by rfl)) (fun w hS => ?_)
  exact ⟨rfl, hS.none⟩

theorem wide_RightB (n : Nat) (m : Int) (hm : 256 ≤ m) : Pure Tryz.prog 113 [vW n, vI m] (vW 0) := by
  intro w
  refine begin0 Tryz.func113 rfl Tryz.ntmps113 rfl ?_
  refine c_seq ?_
  refine c_region ?_
  refine seqq (o_box (T := 51) rfl (IsP.agg).cells rfl (fun b2 => ?_))
  refine seqq (o_alloc (ps := [P1 (bv .u64 0#64), P1 (bv .u64 0#64), P1 (bv .u64 0#64), P1 (bv .u64 0#64)]) Tryz.zeroValue51 (by kernel_rfl) rfl (fun b4 => ?_))
  refine c_nil ?_
  refine c_seq ?_
  refine c_block ?_
  refine c_seq ?_
  refine c_region ?_
  refine seqq (o_y (y_move rfl) rfl ?_)
  refine seqq (o_y (y_leqZ rfl rfl) rfl ?_)
  refine j_re 11 rfl (decF (by omega)) ?_
  refine seqq (o_y (y_move rfl) rfl ?_)
  refine seqq (guard_true rfl rfl (o_y (y_move rfl) rfl ?_))
  refine seqq (guard_true rfl rfl (o_y (y_geqZ rfl rfl) rfl ?_))
  refine j_re 14 rfl (decT (by omega)) ?_
  refine seqq (o_y (y_pick_f rfl rfl) rfl ?_)
  refine seqq (o_y (y_assign rfl) rfl ?_)
  refine c_nil ?_
  refine c_condT rfl ?_
  refine c_seq ?_
  refine c_region ?_
  refine seqq (o_y (y_buildA (zs := [P1 (bv .u64 0#64), P1 (bv .u64 0#64), P1 (bv .u64 0#64), P1 (bv .u64 0#64)]) Tryz.runUnderlying51 Tryz.sizeOf49 Tryz.zeroValue51 (by kernel_rfl) .nil (by rfl)) rfl ?_)
  refine seqq (stN Tryz.sizeOf51 rfl rfl (by rfl) rfl (by rfl) ?_)
  refine c_nil ?_
  refine c_ret ?_
  refine c_done1 Tryz.results113 (rN Tryz.isAgg51 Tryz.sizeOf51 rfl (by rfl)) (fun w hS => ?_)
  exact ⟨rfl, hS.none⟩

theorem wide_RightL (n : Nat) (m : Int) (hm : m ≤ -256) : Pure Tryz.prog 113 [vW n, vI m] (vW 0) := by
  intro w
  refine begin0 Tryz.func113 rfl Tryz.ntmps113 rfl ?_
  refine c_seq ?_
  refine c_region ?_
  refine seqq (o_box (T := 51) rfl (IsP.agg).cells rfl (fun b2 => ?_))
  refine seqq (o_alloc (ps := [P1 (bv .u64 0#64), P1 (bv .u64 0#64), P1 (bv .u64 0#64), P1 (bv .u64 0#64)]) Tryz.zeroValue51 (by kernel_rfl) rfl (fun b4 => ?_))
  refine c_nil ?_
  refine c_seq ?_
  refine c_block ?_
  refine c_seq ?_
  refine c_region ?_
  refine seqq (o_y (y_move rfl) rfl ?_)
  refine seqq (o_y (y_leqZ rfl rfl) rfl ?_)
  refine j_re 11 rfl (decT (by omega)) ?_
  refine seqq (o_y (y_move rfl) rfl ?_)
  refine seqq (guard_false (c := true) rfl rfl rfl rfl ?_)
  refine seqq (guard_false (c := true) rfl rfl rfl rfl ?_)
  refine seqq (o_y (y_pick_t rfl rfl) rfl ?_)
  refine seqq (o_y (y_assign rfl) rfl ?_)
  refine c_nil ?_
  refine c_condT rfl ?_
  refine c_seq ?_
  refine c_region ?_
  refine seqq (o_y (y_buildA (zs := [P1 (bv .u64 0#64), P1 (bv .u64 0#64), P1 (bv .u64 0#64), P1 (bv .u64 0#64)]) Tryz.runUnderlying51 Tryz.sizeOf49 Tryz.zeroValue51 (by kernel_rfl) .nil (by rfl)) rfl ?_)
  refine seqq (stN Tryz.sizeOf51 rfl rfl (by rfl) rfl (by rfl) ?_)
  refine c_nil ?_
  refine c_ret ?_
  refine c_done1 Tryz.results113 (rN Tryz.isAgg51 Tryz.sizeOf51 rfl (by rfl)) (fun w hS => ?_)
  exact ⟨rfl, hS.none⟩

theorem wide_RightN (n m : Nat) (hn : n < M256) (hm : m < 256) (h0 : 0 < m) : Pure Tryz.prog 113 [vW n, vI (-(m : Int))] (vW (n * 2 ^ m % M256)) := by
  intro w
  refine begin0 Tryz.func113 rfl Tryz.ntmps113 rfl ?_
  refine c_seq ?_
  refine c_region ?_
  refine seqq (o_box (T := 51) rfl (IsP.agg).cells rfl (fun b2 => ?_))
  refine seqq (o_alloc (ps := [P1 (bv .u64 0#64), P1 (bv .u64 0#64), P1 (bv .u64 0#64), P1 (bv .u64 0#64)]) Tryz.zeroValue51 (by kernel_rfl) rfl (fun b4 => ?_))
  refine c_nil ?_
  refine c_seq ?_
  refine c_block ?_
  refine c_seq ?_
  refine c_region ?_
  refine seqq (o_y (y_move rfl) rfl ?_)
  refine seqq (o_y (y_leqZ rfl rfl) rfl ?_)
  refine j_re 11 rfl (decF (by omega)) ?_
  refine seqq (o_y (y_move rfl) rfl ?_)
  refine seqq (guard_true rfl rfl (o_y (y_move rfl) rfl ?_))
  refine seqq (guard_true rfl rfl (o_y (y_geqZ rfl rfl) rfl ?_))
  refine j_re 14 rfl (decF (by omega)) ?_
  refine seqq (o_y (y_pick_f rfl rfl) rfl ?_)
  refine seqq (o_y (y_assign rfl) rfl ?_)
  refine c_nil ?_
  refine c_condF rfl ?_
  refine c_seq ?_
  refine c_region ?_
  refine seqq (o_y (y_move rfl) rfl ?_)
  refine seqq (o_y (y_lssZ rfl rfl) rfl ?_)
  refine j_re 19 rfl (decT (by omega)) ?_
  refine seqq (o_y (y_assign rfl) rfl ?_)
  refine c_nil ?_
  refine c_condT rfl ?_
  refine c_seq ?_
  refine c_region ?_
  refine seqq (o_y (lN Tryz.isAgg51 Tryz.sizeOf51 rfl (by rfl)) rfl ?_)
  refine seqq (o_y (y_move rfl) rfl ?_)
  refine seqq (o_y (y_negI rfl (by omega)) rfl ?_)
  refine j_re 22 rfl (show vI (-(-(m : Int))) = vI (m : Int) from by congr 1; omega) ?_
  refine seqq (o_pure Tryz.call89 rfl (wide_LeftS n m hn hm) rfl ?_)
  refine seqq (stN Tryz.sizeOf51 rfl rfl (by rfl) rfl (by rfl) ?_)
  refine c_nil ?_
  refine c_ret ?_
  refine c_done1 Tryz.results113 (rN Tryz.isAgg51 Tryz.sizeOf51 rfl (by rfl)) (fun w hS => ?_)
  exact ⟨rfl, hS.none⟩

theorem wide_Left (n : Nat) (m : Int) (hn : n < M256) : Pure Tryz.prog 89 [vW n, vI m] (vW (if 0 ≤ m then n * 2 ^ m.toNat % M256 else n / 2 ^ (-m).toNat)) := by
  by_cases h1 : 256 ≤ m
  · refine (wide_LeftB n m h1).to ?_
    obtain ⟨k, hk⟩ : ∃ k, m.toNat = 256 + k := ⟨m.toNat - 256, by omega⟩
    rw [if_pos (by omega), hk, Nat.pow_add, show (2 : Nat) ^ 256 = M256 from rfl, Nat.mul_left_comm, Nat.mul_mod_right]
  by_cases h2 : m ≤ -256
  · refine (wide_LeftL n m h2).to ?_
    obtain ⟨k, hk⟩ : ∃ k, (-m).toNat = 256 + k := ⟨(-m).toNat - 256, by omega⟩
    rw [if_neg (by omega), hk, Nat.pow_add, show (2 : Nat) ^ 256 = M256 from rfl, ← Nat.div_div_eq_div_mul, Nat.div_eq_of_lt hn, Nat.zero_div]
  by_cases h3 : 0 ≤ m
  · obtain ⟨k, rfl⟩ := Int.eq_ofNat_of_zero_le h3
    rw [if_pos h3]
    exact wide_LeftS n k hn (by omega)
  · obtain ⟨k, hk⟩ := Int.eq_ofNat_of_zero_le (show 0 ≤ -m by omega)
    obtain rfl : m = -(k : Int) := by omega
    rw [if_neg h3, Int.neg_neg, Int.toNat_natCast]
    exact wide_LeftN n k hn (by omega) (by omega)
theorem wide_Right (n : Nat) (m : Int) (hn : n < M256) : Pure Tryz.prog 113 [vW n, vI m] (vW (if 0 ≤ m then n / 2 ^ m.toNat else n * 2 ^ (-m).toNat % M256)) := by
  by_cases h1 : 256 ≤ m
  · refine (wide_RightB n m h1).to ?_
    obtain ⟨k, hk⟩ : ∃ k, m.toNat = 256 + k := ⟨m.toNat - 256, by omega⟩
    rw [if_pos (by omega), hk, Nat.pow_add, show (2 : Nat) ^ 256 = M256 from rfl, ← Nat.div_div_eq_div_mul, Nat.div_eq_of_lt hn, Nat.zero_div]
  by_cases h2 : m ≤ -256
  · refine (wide_RightL n m h2).to ?_
    obtain ⟨k, hk⟩ : ∃ k, (-m).toNat = 256 + k := ⟨(-m).toNat - 256, by omega⟩
    rw [if_neg (by omega), hk, Nat.pow_add, show (2 : Nat) ^ 256 = M256 from rfl, Nat.mul_left_comm, Nat.mul_mod_right]
  by_cases h3 : 0 ≤ m
  · obtain ⟨k, rfl⟩ := Int.eq_ofNat_of_zero_le h3
    rw [if_pos h3]
    exact wide_RightS n k hn (by omega)
  · obtain ⟨k, hk⟩ := Int.eq_ofNat_of_zero_le (show 0 ≤ -m by omega)
    obtain rfl : m = -(k : Int) := by omega
    rw [if_neg h3, Int.neg_neg, Int.toNat_natCast]
    exact wide_RightN n k hn (by omega) (by omega)
