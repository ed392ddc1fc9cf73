/- Walks and laws of this claim, part Targ. -/
import Derived.Test.YtjoniieoaokimaaGreatVWide2
set_option linter.unusedVariables false
set_option linter.unusedSimpArgs false
set_option linter.unusedSectionVars false
set_option autoImplicit true
set_option relaxedAutoImplicit true
set_option maxRecDepth 100000
set_option maxHeartbeats 1000000
namespace Go.Proofs
open V
/-- what bits stand for; 0: for nothing -/
def decE (b : BitVec 32) : Int := ((b >>> 24).toNat : Int)
def decM (b : BitVec 32) : Nat := ((b &&& 8388607#32).setWidth 64).toNat
def decT (b : BitVec 32) : Nat :=
  if ¬ (b &&& 8388608#32 = 0#32) ∧ ¬ decM b = 0 then 0
  else if decE b > 3 ∧ (nbits (decM b) : Int) + 8 * (decE b - 3) > 256 then 0
  else if 0 ≤ 8 * (decE b - 3) then decM b * 2 ^ (8 * (decE b - 3)).toNat % M256 else decM b / 2 ^ (-(8 * (decE b - 3))).toNat
theorem decM_lt (b : BitVec 32) : decM b < M256 := by have := ((b &&& 8388607#32).setWidth 64).isLt; simp only [decM, M256]; omega
theorem decE_lt (b : BitVec 32) : 0 ≤ decE b ∧ decE b < 256 := by
  simp only [decE, BitVec.toNat_ushiftRight, Nat.shiftRight_eq_div_pow]; have := b.isLt; omega
theorem decL_lt (b : BitVec 32) : (if 0 ≤ 8 * (decE b - 3) then decM b * 2 ^ (8 * (decE b - 3)).toNat % M256 else decM b / 2 ^ (-(8 * (decE b - 3))).toNat) < M256 := by
  split
  · exact Nat.mod_lt _ (by decide)
  · exact Nat.lt_of_le_of_lt (Nat.div_le_self _ _) (decM_lt b)
theorem decT_lt (b : BitVec 32) : decT b < M256 := by
  unfold decT
  split
  · decide
  · split
    · decide
    · exact decL_lt b
theorem ret_z (b : BitVec 32) (h : decT b = 0) : Value.tuple #[vW 0, vI 6] = .tuple #[vW (decT b), vI (if decT b = 0 then 6 else 0)] := by rw [h]; rfl
theorem ret_e (b : BitVec 32) {l : Nat} (h : decT b = l) (hl : l = 0) : Value.tuple #[vW l, vI 6] = .tuple #[vW (decT b), vI (if decT b = 0 then 6 else 0)] := by rw [h, if_pos hl]
theorem ret_l (b : BitVec 32) {l : Nat} (h : decT b = l) (hl : ¬ l = 0) : Value.tuple #[vW l, vI 0] = .tuple #[vW (decT b), vI (if decT b = 0 then 6 else 0)] := by rw [h, if_neg hl]
theorem z_lt : (0 : Nat) < M256 := by decide
theorem one_lt : 1 < M256 := by decide
theorem wide_Of1 : Pure Tryz.prog 87 [bv .u64 1#64] (vW 1) := wide_Of 1#64

theorem target_Decode (b : BitVec 32) : Pure Tryz.prog 62 [bv .u32 b] (.tuple #[vW (decT b), vI (if decT b = 0 then 6 else 0)]) := by
  intro w
  have hm := decM_lt b
  have hE := decE_lt b
  have hn := nbits_le hm
  have hL := decL_lt b
  refine begin0 Tryz.func62 rfl Tryz.ntmps62 rfl ?_
  refine c_seq ?_
  refine c_region ?_
  refine seqq (o_alloc (ps := wideN 0) Tryz.zeroValue51 (by kernel_rfl) rfl (fun b2 => ?_))
  refine seqq (o_y (y_assign rfl) rfl ?_)
  refine c_nil ?_
  refine c_seq ?_
  refine c_region ?_
  refine seqq (o_y (y_move rfl) rfl ?_)
  refine seqq (o_y (y_shrB (s := 24) UK.u32 rfl rfl) rfl ?_)
  refine seqq (o_y (y_convBI Tryz.runUnderlying22 Tryz.runUnderlying3 rfl (cvu32 _)) rfl ?_)
  refine j_re 9 rfl (show _ = vI (decE b) from rfl) ?_
  refine seqq (o_y (y_move rfl) rfl ?_)
  refine seqq (o_y (y_andB (Y := 8388607#32) UK.u32 rfl rfl) rfl ?_)
  refine seqq (o_y (y_convB UK.u64 Tryz.runUnderlying22 Tryz.runUnderlying49 rfl) rfl ?_)
  refine seqq (o_pure Tryz.call87 rfl (wide_Of _) rfl ?_)
  refine j_re 13 rfl (show _ = vW (decM b) from rfl) ?_
  refine seqq (o_alloc (ps := wideN 0) Tryz.zeroValue51 (by kernel_rfl) rfl (fun b5 => ?_))
  refine seqq (o_y (y_assign rfl) rfl ?_)
  refine seqq (stN Tryz.sizeOf51 rfl rfl (by rfl) rfl (by rfl) ?_)
  refine c_nil ?_
  refine c_seq ?_
  refine c_seq ?_
  refine c_region ?_
  refine seqq (o_y (y_move rfl) rfl ?_)
  refine seqq (o_y (y_andB (Y := 8388608#32) UK.u32 rfl rfl) rfl ?_)
  refine seqq (o_y (y_neqB (Y := 0#32) rfl rfl) rfl ?_)
  refine seqq (o_y (y_move rfl) rfl ?_)
  refine j_ifn 17 rfl (fun h17 => ?_) (fun h17 => ?_)
  ·
    refine seqq (guard_true rfl rfl (o_y (lN Tryz.isAgg51 Tryz.sizeOf51 rfl (by rfl)) rfl ?_))
    refine seqq (guard_true rfl rfl (o_y (y_buildA (zs := wideN 0) Tryz.runUnderlying51 Tryz.sizeOf49 Tryz.zeroValue51 (by kernel_rfl) .nil (by rfl)) rfl ?_))
    refine seqq (guard_true rfl rfl (o_y (y_neqA rfl rfl Tryz.eqGuardType51 (eqW (m := 0) hm z_lt)) rfl ?_))
    refine seqq (o_y (y_pick_t rfl rfl) rfl ?_)
    refine c_nil ?_
    refine c_ifn rfl (fun h21 => ?_) (fun h21 => ?_)
    ·
      refine c_seq ?_
      refine c_region ?_
      refine seqq (o_y (y_buildA (zs := wideN 0) Tryz.runUnderlying51 Tryz.sizeOf49 Tryz.zeroValue51 (by kernel_rfl) .nil (by rfl)) rfl ?_)
      refine seqq (stN Tryz.sizeOf51 rfl rfl (by rfl) rfl (by rfl) ?_)
      refine seqq (o_y (y_assign rfl) rfl ?_)
      refine c_nil ?_
      refine c_ret ?_
      refine c_done2 Tryz.results62 (rN Tryz.isAgg51 Tryz.sizeOf51 rfl (by rfl)) (.tmp rfl) (fun w hS => ?_)
      refine ⟨?_, hS.none⟩
      first | exact ret_z b (by simp [decT, *]) | exact ret_e b (by simp only [decT]; rw [if_neg (by simp_all), if_neg (by first | (intro hc; omega) | (simp_all; done) | (simp_all; omega))]) h42 | exact ret_l b (by simp only [decT]; rw [if_neg (by simp_all), if_neg (by first | (intro hc; omega) | (simp_all; done) | (simp_all; omega))]) h42
    ·
      refine c_skip ?_
      refine c_seq ?_
      refine c_seq ?_
      refine c_region ?_
      refine seqq (o_y (y_move rfl) rfl ?_)
      refine seqq (o_y (y_gtrZ rfl rfl) rfl ?_)
      refine seqq (o_y (y_move rfl) rfl ?_)
      refine j_if 25 rfl (fun h25 => ?_) (fun h25 => ?_)
      ·
        refine seqq (guard_true rfl rfl (o_y (lN Tryz.isAgg51 Tryz.sizeOf51 rfl (by rfl)) rfl ?_))
        refine seqq (guard_true rfl rfl (o_pure Tryz.call88 rfl (wide_Bits _ (by assumption)) rfl ?_))
        refine seqq (guard_true rfl rfl (o_y (y_move rfl) rfl ?_))
        refine seqq (guard_true rfl rfl (o_y (y_subI rfl rfl (by omega)) rfl ?_))
        refine seqq (guard_true rfl rfl (o_y (y_mulI rfl rfl (by omega)) rfl ?_))
        refine seqq (guard_true rfl rfl (o_y (y_addI rfl rfl (by omega)) rfl ?_))
        refine seqq (guard_true rfl rfl (o_y (y_gtrZ rfl rfl) rfl ?_))
        refine seqq (o_y (y_pick_t rfl rfl) rfl ?_)
        refine c_nil ?_
        refine c_if rfl (fun h33 => ?_) (fun h33 => ?_)
        ·
          refine c_seq ?_
          refine c_region ?_
          refine seqq (o_y (y_buildA (zs := wideN 0) Tryz.runUnderlying51 Tryz.sizeOf49 Tryz.zeroValue51 (by kernel_rfl) .nil (by rfl)) rfl ?_)
          refine seqq (stN Tryz.sizeOf51 rfl rfl (by rfl) rfl (by rfl) ?_)
          refine seqq (o_y (y_assign rfl) rfl ?_)
          refine c_nil ?_
          refine c_ret ?_
          refine c_done2 Tryz.results62 (rN Tryz.isAgg51 Tryz.sizeOf51 rfl (by rfl)) (.tmp rfl) (fun w hS => ?_)
          refine ⟨?_, hS.none⟩
          first | exact ret_z b (by simp [decT, *]) | exact ret_e b (by simp only [decT]; rw [if_neg (by simp_all), if_neg (by first | (intro hc; omega) | (simp_all; done) | (simp_all; omega))]) h42 | exact ret_l b (by simp only [decT]; rw [if_neg (by simp_all), if_neg (by first | (intro hc; omega) | (simp_all; done) | (simp_all; omega))]) h42
        ·
          refine c_skip ?_
          refine c_seq ?_
          refine c_region ?_
          refine seqq (o_y (lN Tryz.isAgg51 Tryz.sizeOf51 rfl (by rfl)) rfl ?_)
          refine seqq (o_y (y_move rfl) rfl ?_)
          refine seqq (o_y (y_subI rfl rfl (by omega)) rfl ?_)
          refine seqq (o_y (y_mulI rfl rfl (by omega)) rfl ?_)
          refine seqq (o_pure Tryz.call89 rfl (wide_Left _ _ hm) rfl ?_)
          refine seqq (o_alloc (ps := wideN 0) Tryz.zeroValue51 (by kernel_rfl) rfl (fun b6 => ?_))
          refine seqq (stN Tryz.sizeOf51 rfl rfl (by rfl) rfl (by rfl) ?_)
          refine c_nil ?_
          refine c_seq ?_
          refine c_seq ?_
          refine c_region ?_
          refine seqq (o_y (lN Tryz.isAgg51 Tryz.sizeOf51 rfl (by rfl)) rfl ?_)
          refine seqq (o_y (y_buildA (zs := wideN 0) Tryz.runUnderlying51 Tryz.sizeOf49 Tryz.zeroValue51 (by kernel_rfl) .nil (by rfl)) rfl ?_)
          refine seqq (o_y (y_eqlA rfl rfl Tryz.eqGuardType51 (eqW (m := 0) hL z_lt)) rfl ?_)
          refine c_nil ?_
          refine c_if rfl (fun h42 => ?_) (fun h42 => ?_)
          ·
            refine c_seq ?_
            refine c_region ?_
            refine seqq (o_y (lN Tryz.isAgg51 Tryz.sizeOf51 rfl (by rfl)) rfl ?_)
            refine seqq (stN Tryz.sizeOf51 rfl rfl (by rfl) rfl (by rfl) ?_)
            refine seqq (o_y (y_assign rfl) rfl ?_)
            refine c_nil ?_
            refine c_ret ?_
            refine c_done2 Tryz.results62 (rN Tryz.isAgg51 Tryz.sizeOf51 rfl (by rfl)) (.tmp rfl) (fun w hS => ?_)
            refine ⟨?_, hS.none⟩
            first | exact ret_z b (by simp [decT, *]) | exact ret_e b (by simp only [decT]; rw [if_neg (by simp_all), if_neg (by first | (intro hc; omega) | (simp_all; done) | (simp_all; omega))]) h42 | exact ret_l b (by simp only [decT]; rw [if_neg (by simp_all), if_neg (by first | (intro hc; omega) | (simp_all; done) | (simp_all; omega))]) h42
          ·
            refine c_skip ?_
            refine c_seq ?_
            refine c_region ?_
            refine seqq (o_y (lN Tryz.isAgg51 Tryz.sizeOf51 rfl (by rfl)) rfl ?_)
            refine seqq (stN Tryz.sizeOf51 rfl rfl (by rfl) rfl (by rfl) ?_)
            refine seqq (o_y (y_assign rfl) rfl ?_)
            refine c_nil ?_
            refine c_ret ?_
            refine c_done2 Tryz.results62 (rN Tryz.isAgg51 Tryz.sizeOf51 rfl (by rfl)) (.tmp rfl) (fun w hS => ?_)
            refine ⟨?_, hS.none⟩
            first | exact ret_z b (by simp [decT, *]) | exact ret_e b (by simp only [decT]; rw [if_neg (by simp_all), if_neg (by first | (intro hc; omega) | (simp_all; done) | (simp_all; omega))]) h42 | exact ret_l b (by simp only [decT]; rw [if_neg (by simp_all), if_neg (by first | (intro hc; omega) | (simp_all; done) | (simp_all; omega))]) h42
      ·
        refine seqq (guard_false (c := false) rfl rfl rfl rfl ?_)
        refine seqq (guard_false (c := false) rfl rfl rfl rfl ?_)
        refine seqq (guard_false (c := false) rfl rfl rfl rfl ?_)
        refine seqq (guard_false (c := false) rfl rfl rfl rfl ?_)
        refine seqq (guard_false (c := false) rfl rfl rfl rfl ?_)
        refine seqq (guard_false (c := false) rfl rfl rfl rfl ?_)
        refine seqq (guard_false (c := false) rfl rfl rfl rfl ?_)
        refine seqq (o_y (y_pick_f rfl rfl) rfl ?_)
        refine c_nil ?_
        refine c_condF rfl ?_
        refine c_skip ?_
        refine c_seq ?_
        refine c_region ?_
        refine seqq (o_y (lN Tryz.isAgg51 Tryz.sizeOf51 rfl (by rfl)) rfl ?_)
        refine seqq (o_y (y_move rfl) rfl ?_)
        refine seqq (o_y (y_subI rfl rfl (by omega)) rfl ?_)
        refine seqq (o_y (y_mulI rfl rfl (by omega)) rfl ?_)
        refine seqq (o_pure Tryz.call89 rfl (wide_Left _ _ hm) rfl ?_)
        refine seqq (o_alloc (ps := wideN 0) Tryz.zeroValue51 (by kernel_rfl) rfl (fun b6 => ?_))
        refine seqq (stN Tryz.sizeOf51 rfl rfl (by rfl) rfl (by rfl) ?_)
        refine c_nil ?_
        refine c_seq ?_
        refine c_seq ?_
        refine c_region ?_
        refine seqq (o_y (lN Tryz.isAgg51 Tryz.sizeOf51 rfl (by rfl)) rfl ?_)
        refine seqq (o_y (y_buildA (zs := wideN 0) Tryz.runUnderlying51 Tryz.sizeOf49 Tryz.zeroValue51 (by kernel_rfl) .nil (by rfl)) rfl ?_)
        refine seqq (o_y (y_eqlA rfl rfl Tryz.eqGuardType51 (eqW (m := 0) hL z_lt)) rfl ?_)
        refine c_nil ?_
        refine c_if rfl (fun h42 => ?_) (fun h42 => ?_)
        ·
          refine c_seq ?_
          refine c_region ?_
          refine seqq (o_y (lN Tryz.isAgg51 Tryz.sizeOf51 rfl (by rfl)) rfl ?_)
          refine seqq (stN Tryz.sizeOf51 rfl rfl (by rfl) rfl (by rfl) ?_)
          refine seqq (o_y (y_assign rfl) rfl ?_)
          refine c_nil ?_
          refine c_ret ?_
          refine c_done2 Tryz.results62 (rN Tryz.isAgg51 Tryz.sizeOf51 rfl (by rfl)) (.tmp rfl) (fun w hS => ?_)
          refine ⟨?_, hS.none⟩
          first | exact ret_z b (by simp [decT, *]) | exact ret_e b (by simp only [decT]; rw [if_neg (by simp_all), if_neg (by first | (intro hc; omega) | (simp_all; done) | (simp_all; omega))]) h42 | exact ret_l b (by simp only [decT]; rw [if_neg (by simp_all), if_neg (by first | (intro hc; omega) | (simp_all; done) | (simp_all; omega))]) h42
        ·
          refine c_skip ?_
          refine c_seq ?_
          refine c_region ?_
          refine seqq (o_y (lN Tryz.isAgg51 Tryz.sizeOf51 rfl (by rfl)) rfl ?_)
          refine seqq (stN Tryz.sizeOf51 rfl rfl (by rfl) rfl (by rfl) ?_)
          refine seqq (o_y (y_assign rfl) rfl ?_)
          refine c_nil ?_
          refine c_ret ?_
          refine c_done2 Tryz.results62 (rN Tryz.isAgg51 Tryz.sizeOf51 rfl (by rfl)) (.tmp rfl) (fun w hS => ?_)
          refine ⟨?_, hS.none⟩
          first | exact ret_z b (by simp [decT, *]) | exact ret_e b (by simp only [decT]; rw [if_neg (by simp_all), if_neg (by first | (intro hc; omega) | (simp_all; done) | (simp_all; omega))]) h42 | exact ret_l b (by simp only [decT]; rw [if_neg (by simp_all), if_neg (by first | (intro hc; omega) | (simp_all; done) | (simp_all; omega))]) h42
  ·
    refine seqq (guard_false (c := false) rfl rfl rfl rfl ?_)
    refine seqq (guard_false (c := false) rfl rfl rfl rfl ?_)
    refine seqq (guard_false (c := false) rfl rfl rfl rfl ?_)
    refine seqq (o_y (y_pick_f rfl rfl) rfl ?_)
    refine c_nil ?_
    refine c_condF rfl ?_
    refine c_skip ?_
    refine c_seq ?_
    refine c_seq ?_
    refine c_region ?_
    refine seqq (o_y (y_move rfl) rfl ?_)
    refine seqq (o_y (y_gtrZ rfl rfl) rfl ?_)
    refine seqq (o_y (y_move rfl) rfl ?_)
    refine j_if 25 rfl (fun h25 => ?_) (fun h25 => ?_)
    ·
      refine seqq (guard_true rfl rfl (o_y (lN Tryz.isAgg51 Tryz.sizeOf51 rfl (by rfl)) rfl ?_))
      refine seqq (guard_true rfl rfl (o_pure Tryz.call88 rfl (wide_Bits _ (by assumption)) rfl ?_))
      refine seqq (guard_true rfl rfl (o_y (y_move rfl) rfl ?_))
      refine seqq (guard_true rfl rfl (o_y (y_subI rfl rfl (by omega)) rfl ?_))
      refine seqq (guard_true rfl rfl (o_y (y_mulI rfl rfl (by omega)) rfl ?_))
      refine seqq (guard_true rfl rfl (o_y (y_addI rfl rfl (by omega)) rfl ?_))
      refine seqq (guard_true rfl rfl (o_y (y_gtrZ rfl rfl) rfl ?_))
      refine seqq (o_y (y_pick_t rfl rfl) rfl ?_)
      refine c_nil ?_
      refine c_if rfl (fun h33 => ?_) (fun h33 => ?_)
      ·
        refine c_seq ?_
        refine c_region ?_
        refine seqq (o_y (y_buildA (zs := wideN 0) Tryz.runUnderlying51 Tryz.sizeOf49 Tryz.zeroValue51 (by kernel_rfl) .nil (by rfl)) rfl ?_)
        refine seqq (stN Tryz.sizeOf51 rfl rfl (by rfl) rfl (by rfl) ?_)
        refine seqq (o_y (y_assign rfl) rfl ?_)
        refine c_nil ?_
        refine c_ret ?_
        refine c_done2 Tryz.results62 (rN Tryz.isAgg51 Tryz.sizeOf51 rfl (by rfl)) (.tmp rfl) (fun w hS => ?_)
        refine ⟨?_, hS.none⟩
        first | exact ret_z b (by simp [decT, *]) | exact ret_e b (by simp only [decT]; rw [if_neg (by simp_all), if_neg (by first | (intro hc; omega) | (simp_all; done) | (simp_all; omega))]) h42 | exact ret_l b (by simp only [decT]; rw [if_neg (by simp_all), if_neg (by first | (intro hc; omega) | (simp_all; done) | (simp_all; omega))]) h42
      ·
        refine c_skip ?_
        refine c_seq ?_
        refine c_region ?_
        refine seqq (o_y (lN Tryz.isAgg51 Tryz.sizeOf51 rfl (by rfl)) rfl ?_)
        refine seqq (o_y (y_move rfl) rfl ?_)
        refine seqq (o_y (y_subI rfl rfl (by omega)) rfl ?_)
        refine seqq (o_y (y_mulI rfl rfl (by omega)) rfl ?_)
        refine seqq (o_pure Tryz.call89 rfl (wide_Left _ _ hm) rfl ?_)
        refine seqq (o_alloc (ps := wideN 0) Tryz.zeroValue51 (by kernel_rfl) rfl (fun b6 => ?_))
        refine seqq (stN Tryz.sizeOf51 rfl rfl (by rfl) rfl (by rfl) ?_)
        refine c_nil ?_
        refine c_seq ?_
        refine c_seq ?_
        refine c_region ?_
        refine seqq (o_y (lN Tryz.isAgg51 Tryz.sizeOf51 rfl (by rfl)) rfl ?_)
        refine seqq (o_y (y_buildA (zs := wideN 0) Tryz.runUnderlying51 Tryz.sizeOf49 Tryz.zeroValue51 (by kernel_rfl) .nil (by rfl)) rfl ?_)
        refine seqq (o_y (y_eqlA rfl rfl Tryz.eqGuardType51 (eqW (m := 0) hL z_lt)) rfl ?_)
        refine c_nil ?_
        refine c_if rfl (fun h42 => ?_) (fun h42 => ?_)
        ·
          refine c_seq ?_
          refine c_region ?_
          refine seqq (o_y (lN Tryz.isAgg51 Tryz.sizeOf51 rfl (by rfl)) rfl ?_)
          refine seqq (stN Tryz.sizeOf51 rfl rfl (by rfl) rfl (by rfl) ?_)
          refine seqq (o_y (y_assign rfl) rfl ?_)
          refine c_nil ?_
          refine c_ret ?_
          refine c_done2 Tryz.results62 (rN Tryz.isAgg51 Tryz.sizeOf51 rfl (by rfl)) (.tmp rfl) (fun w hS => ?_)
          refine ⟨?_, hS.none⟩
          first | exact ret_z b (by simp [decT, *]) | exact ret_e b (by simp only [decT]; rw [if_neg (by simp_all), if_neg (by first | (intro hc; omega) | (simp_all; done) | (simp_all; omega))]) h42 | exact ret_l b (by simp only [decT]; rw [if_neg (by simp_all), if_neg (by first | (intro hc; omega) | (simp_all; done) | (simp_all; omega))]) h42
        ·
          refine c_skip ?_
          refine c_seq ?_
          refine c_region ?_
          refine seqq (o_y (lN Tryz.isAgg51 Tryz.sizeOf51 rfl (by rfl)) rfl ?_)
          refine seqq (stN Tryz.sizeOf51 rfl rfl (by rfl) rfl (by rfl) ?_)
          refine seqq (o_y (y_assign rfl) rfl ?_)
          refine c_nil ?_
          refine c_ret ?_
          refine c_done2 Tryz.results62 (rN Tryz.isAgg51 Tryz.sizeOf51 rfl (by rfl)) (.tmp rfl) (fun w hS => ?_)
          refine ⟨?_, hS.none⟩
          first | exact ret_z b (by simp [decT, *]) | exact ret_e b (by simp only [decT]; rw [if_neg (by simp_all), if_neg (by first | (intro hc; omega) | (simp_all; done) | (simp_all; omega))]) h42 | exact ret_l b (by simp only [decT]; rw [if_neg (by simp_all), if_neg (by first | (intro hc; omega) | (simp_all; done) | (simp_all; omega))]) h42
    ·
      refine seqq (guard_false (c := false) rfl rfl rfl rfl ?_)
      refine seqq (guard_false (c := false) rfl rfl rfl rfl ?_)
      refine seqq (guard_false (c := false) rfl rfl rfl rfl ?_)
      refine seqq (guard_false (c := false) rfl rfl rfl rfl ?_)
      refine seqq (guard_false (c := false) rfl rfl rfl rfl ?_)
      refine seqq (guard_false (c := false) rfl rfl rfl rfl ?_)
      refine seqq (guard_false (c := false) rfl rfl rfl rfl ?_)
      refine seqq (o_y (y_pick_f rfl rfl) rfl ?_)
      refine c_nil ?_
      refine c_condF rfl ?_
      refine c_skip ?_
      refine c_seq ?_
      refine c_region ?_
      refine seqq (o_y (lN Tryz.isAgg51 Tryz.sizeOf51 rfl (by rfl)) rfl ?_)
      refine seqq (o_y (y_move rfl) rfl ?_)
      refine seqq (o_y (y_subI rfl rfl (by omega)) rfl ?_)
      refine seqq (o_y (y_mulI rfl rfl (by omega)) rfl ?_)
      refine seqq (o_pure Tryz.call89 rfl (wide_Left _ _ hm) rfl ?_)
      refine seqq (o_alloc (ps := wideN 0) Tryz.zeroValue51 (by kernel_rfl) rfl (fun b6 => ?_))
      refine seqq (stN Tryz.sizeOf51 rfl rfl (by rfl) rfl (by rfl) ?_)
      refine c_nil ?_
      refine c_seq ?_
      refine c_seq ?_
      refine c_region ?_
      refine seqq (o_y (lN Tryz.isAgg51 Tryz.sizeOf51 rfl (by rfl)) rfl ?_)
      refine seqq (o_y (y_buildA (zs := wideN 0) Tryz.runUnderlying51 Tryz.sizeOf49 Tryz.zeroValue51 (by kernel_rfl) .nil (by rfl)) rfl ?_)
      refine seqq (o_y (y_eqlA rfl rfl Tryz.eqGuardType51 (eqW (m := 0) hL z_lt)) rfl ?_)
      refine c_nil ?_
      refine c_if rfl (fun h42 => ?_) (fun h42 => ?_)
      ·
        refine c_seq ?_
        refine c_region ?_
        refine seqq (o_y (lN Tryz.isAgg51 Tryz.sizeOf51 rfl (by rfl)) rfl ?_)
        refine seqq (stN Tryz.sizeOf51 rfl rfl (by rfl) rfl (by rfl) ?_)
        refine seqq (o_y (y_assign rfl) rfl ?_)
        refine c_nil ?_
        refine c_ret ?_
        refine c_done2 Tryz.results62 (rN Tryz.isAgg51 Tryz.sizeOf51 rfl (by rfl)) (.tmp rfl) (fun w hS => ?_)
        refine ⟨?_, hS.none⟩
        first | exact ret_z b (by simp [decT, *]) | exact ret_e b (by simp only [decT]; rw [if_neg (by simp_all), if_neg (by first | (intro hc; omega) | (simp_all; done) | (simp_all; omega))]) h42 | exact ret_l b (by simp only [decT]; rw [if_neg (by simp_all), if_neg (by first | (intro hc; omega) | (simp_all; done) | (simp_all; omega))]) h42
      ·
        refine c_skip ?_
        refine c_seq ?_
        refine c_region ?_
        refine seqq (o_y (lN Tryz.isAgg51 Tryz.sizeOf51 rfl (by rfl)) rfl ?_)
        refine seqq (stN Tryz.sizeOf51 rfl rfl (by rfl) rfl (by rfl) ?_)
        refine seqq (o_y (y_assign rfl) rfl ?_)
        refine c_nil ?_
        refine c_ret ?_
        refine c_done2 Tryz.results62 (rN Tryz.isAgg51 Tryz.sizeOf51 rfl (by rfl)) (.tmp rfl) (fun w hS => ?_)
        refine ⟨?_, hS.none⟩
        first | exact ret_z b (by simp [decT, *]) | exact ret_e b (by simp only [decT]; rw [if_neg (by simp_all), if_neg (by first | (intro hc; omega) | (simp_all; done) | (simp_all; omega))]) h42 | exact ret_l b (by simp only [decT]; rw [if_neg (by simp_all), if_neg (by first | (intro hc; omega) | (simp_all; done) | (simp_all; omega))]) h42

/-- the number of a small one -/
def uintW (n : Nat) : BitVec 64 := if (nbits n : Int) > 64 then 0#64 else nw n 0
theorem wide_Uint' (n : Nat) (hn : n < M256) : Pure Tryz.prog 134 [vW n] (.tuple #[bv .u64 (uintW n), .bool (decide ((nbits n : Int) ≤ 64))]) := by
  refine (wide_Uint n hn).to ?_
  by_cases h : (nbits n : Int) > 64
  · rw [if_pos h, uintW, if_pos h, decide_eq_false (by omega)]
  · rw [if_neg h, uintW, if_neg h, decide_eq_true (by omega)]
def rgt (n : Nat) (m : Int) : Nat := if 0 ≤ m then n / 2 ^ m.toNat else n * 2 ^ (-m).toNat % M256
theorem rgt_lt {n : Nat} (m : Int) (h : n < M256) : rgt n m < M256 := by
  unfold rgt
  split
  · exact Nat.lt_of_le_of_lt (Nat.div_le_self _ _) h
  · exact Nat.mod_lt _ (by decide)
def encE (n : Nat) : Int := ((nbits n : Int) + 7) / 8
def encM (n : Nat) : BitVec 64 := uintW (rgt n (8 * (encE n - 3)))
def encT (n : Nat) : BitVec 32 :=
  if encM n &&& 8388608#64 = 0#64 then (encM n).setWidth 32 ||| (BitVec.ofInt 32 (encE n) <<< 24) else (encM n >>> 8).setWidth 32 ||| (BitVec.ofInt 32 (encE n + 1) <<< 24)

theorem target_Encode (n : Nat) (hn : n < M256) : Pure Tryz.prog 121 [vW n] (bv .u32 (encT n)) := by
  intro w
  have hnb := nbits_le hn
  have hE : 0 ≤ encE n ∧ encE n ≤ 32 := by unfold encE; omega
  refine begin0 Tryz.func121 rfl Tryz.ntmps121 rfl ?_
  refine c_seq ?_
  refine c_region ?_
  refine seqq (o_box (T := 51) rfl (IsP.agg).cells rfl (fun b1 => ?_))
  refine seqq (o_y (y_assign (v := bv .u32 0#32) rfl) rfl ?_)
  refine c_nil ?_
  refine c_seq ?_
  refine c_region ?_
  refine seqq (o_y (lN Tryz.isAgg51 Tryz.sizeOf51 rfl (by rfl)) rfl ?_)
  refine seqq (o_pure Tryz.call88 rfl (wide_Bits _ (by assumption)) rfl ?_)
  refine seqq (o_y (y_addI rfl rfl (by omega)) rfl ?_)
  refine seqq (o_y (y_quoI rfl rfl (by omega)) rfl ?_)
  refine j_re 9 rfl (show _ = vI (encE n) from rfl) ?_
  refine seqq (o_y (y_assign rfl) rfl ?_)
  refine c_nil ?_
  refine c_seq ?_
  refine c_region ?_
  refine seqq (o_y (lN Tryz.isAgg51 Tryz.sizeOf51 rfl (by rfl)) rfl ?_)
  refine seqq (o_y (y_move rfl) rfl ?_)
  refine seqq (o_y (y_subI rfl rfl (by omega)) rfl ?_)
  refine seqq (o_y (y_mulI rfl rfl (by omega)) rfl ?_)
  refine seqq (o_pure Tryz.call113 rfl (wide_Right _ _ hn) rfl ?_)
  refine seqq (o_pure Tryz.call134 rfl (wide_Uint' _ (rgt_lt _ hn)) rfl ?_)
  refine seqq (o_y (y_move rfl) rfl ?_)
  refine seqq (o_y (y_extract rfl rfl) rfl ?_)
  refine j_re 17 rfl (show _ = bv .u64 (encM n) from rfl) ?_
  refine seqq (o_y (y_extract rfl rfl) rfl ?_)
  refine seqq (o_y (y_assign rfl) rfl ?_)
  refine seqq (o_y (y_assign rfl) rfl ?_)
  refine c_nil ?_
  refine c_seq ?_
  refine c_seq ?_
  refine c_region ?_
  refine seqq (o_y (y_move rfl) rfl ?_)
  refine seqq (o_y (y_andB (Y := 8388608#64) UK.u64 rfl rfl) rfl ?_)
  refine seqq (o_y (y_neqB (Y := 0#64) rfl rfl) rfl ?_)
  refine c_nil ?_
  refine c_ifn rfl (fun h21 => ?_) (fun h21 => ?_)
  ·
    refine c_seq ?_
    refine c_region ?_
    refine seqq (o_y (y_move rfl) rfl ?_)
    refine seqq (o_y (y_shrB (s := 8) UK.u64 rfl rfl) rfl ?_)
    refine seqq (o_y (y_assign rfl) rfl ?_)
    refine c_nil ?_
    refine c_region ?_
    refine seqq (o_y (y_move rfl) rfl ?_)
    refine seqq (o_y (y_addI rfl rfl (by omega)) rfl ?_)
    refine seqq (o_y (y_assign rfl) rfl ?_)
    refine c_nil ?_
    refine c_seq ?_
    refine c_region ?_
    refine seqq (o_y (y_move rfl) rfl ?_)
    refine seqq (o_y (y_convB UK.u32 Tryz.runUnderlying49 Tryz.runUnderlying22 rfl) rfl ?_)
    refine seqq (o_y (y_move rfl) rfl ?_)
    refine seqq (o_y (y_convZB UK.u32 Tryz.runUnderlying3 Tryz.runUnderlying22 rfl) rfl ?_)
    refine seqq (o_y (y_shlB (s := 24) UK.u32 rfl rfl) rfl ?_)
    refine seqq (o_y (y_orB UK.u32 rfl rfl) rfl ?_)
    refine seqq (o_y (y_assign rfl) rfl ?_)
    refine c_nil ?_
    refine c_ret ?_
    refine c_done1 Tryz.results121 (.tmp rfl) (fun w hS => ?_)
    exact ⟨by unfold encT; simp only [h21, if_true, if_false], hS.none⟩
  ·
    refine c_skip ?_
    refine c_seq ?_
    refine c_region ?_
    refine seqq (o_y (y_move rfl) rfl ?_)
    refine seqq (o_y (y_convB UK.u32 Tryz.runUnderlying49 Tryz.runUnderlying22 rfl) rfl ?_)
    refine seqq (o_y (y_move rfl) rfl ?_)
    refine seqq (o_y (y_convZB UK.u32 Tryz.runUnderlying3 Tryz.runUnderlying22 rfl) rfl ?_)
    refine seqq (o_y (y_shlB (s := 24) UK.u32 rfl rfl) rfl ?_)
    refine seqq (o_y (y_orB UK.u32 rfl rfl) rfl ?_)
    refine seqq (o_y (y_assign rfl) rfl ?_)
    refine c_nil ?_
    refine c_ret ?_
    refine c_done1 Tryz.results121 (.tmp rfl) (fun w hS => ?_)
    exact ⟨by unfold encT; simp only [h21, if_true, if_false], hS.none⟩

def workT (t : Nat) : Nat := if M256 ≤ t + 1 then 1 else if M256 ≤ (M256 - 1 - t) / (t + 1) + 1 then M256 - 1 else (M256 - 1 - t) / (t + 1) + 1
theorem workT_lt (t : Nat) : workT t < M256 := by
  unfold workT
  split
  · decide
  · split
    · decide
    · omega

theorem target_Work (t : Nat) (ht : t < M256) : Pure Tryz.prog 69 [vW t] (vW (workT t)) := by
  intro w
  have hnot : M256 - 1 - t < M256 := by simp only [M256]; omega
  refine begin0 Tryz.func69 rfl Tryz.ntmps69 rfl ?_
  refine c_seq ?_
  refine c_region ?_
  refine seqq (o_box (T := 51) rfl (IsP.agg).cells rfl (fun b1 => ?_))
  refine seqq (o_alloc (ps := wideN 0) Tryz.zeroValue51 (by kernel_rfl) rfl (fun b2 => ?_))
  refine c_nil ?_
  refine c_seq ?_
  refine d_reg 7 mixed rfl ?_
  refine d_s (i := 0) (k' := 1) rfl (by kernel_rfl) (by kernel_rfl) (lN Tryz.isAgg51 Tryz.sizeOf51 rfl (by rfl)) hss rfl ?_
  refine d_c (i := 1) (k' := 3) rfl (by kernel_rfl) Tryz.call87 rfl (wide_Of1) rfl ?_
  refine d_c (i := 2) (k' := 7) rfl (by kernel_rfl) Tryz.call43 rfl (wide_Add _ _ ht one_lt) rfl ?_
  refine d_y (i := 3) (k' := 15) rfl (by kernel_rfl) (y_move rfl) rfl ?_
  refine d_y (i := 4) (k' := 31) rfl (by kernel_rfl) (y_extract rfl rfl) rfl ?_
  refine d_y (i := 5) (k' := 63) rfl (by kernel_rfl) (y_extract rfl rfl) rfl ?_
  refine d_e (i := 6) (k' := 127) rfl (by kernel_rfl) (o_alloc (ps := wideN 0) Tryz.zeroValue51 (by kernel_rfl) rfl (fun b3 => d_keep hss ?_))
  refine d_e (i := 7) (k' := 255) rfl (by kernel_rfl) (stN Tryz.sizeOf51 rfl rfl (by rfl) rfl (by rfl) ( d_past rfl ?_))
  refine d_y (i := 8) (k' := 511) rfl (by kernel_rfl) (y_assign rfl) rfl ?_
  refine d_end (by kernel_rfl) ?_
  refine c_seq ?_
  refine c_seq ?_
  refine c_region ?_
  refine seqq (o_y (y_move rfl) rfl ?_)
  refine c_nil ?_
  refine c_if rfl (fun h15 => ?_) (fun h15 => ?_)
  ·
    refine c_seq ?_
    refine c_region ?_
    refine seqq (o_pure Tryz.call87 rfl (wide_Of1) rfl ?_)
    refine seqq (stN Tryz.sizeOf51 rfl rfl (by rfl) rfl (by rfl) ?_)
    refine c_nil ?_
    refine c_ret ?_
    refine c_done1 Tryz.results69 (rN Tryz.isAgg51 Tryz.sizeOf51 rfl (by rfl)) (fun w hS => ?_)
    refine ⟨?_, hS.none⟩
    have : workT t = 1 := by rw [workT, if_pos h15]
    rw [this]
  ·
    have ht1 : t + 1 < M256 := by omega
    have hm : (t + 1) % M256 = t + 1 := Nat.mod_eq_of_lt ht1
    have hq : (M256 - 1 - t) / (t + 1) < M256 := Nat.lt_of_le_of_lt (Nat.div_le_self _ _) hnot
    refine c_skip ?_
    refine c_seq ?_
    refine d_reg 10 mixed rfl ?_
    refine d_s (i := 0) (k' := 1) rfl (by kernel_rfl) (by kernel_rfl) (lN Tryz.isAgg51 Tryz.sizeOf51 rfl (by rfl)) hss rfl ?_
    refine d_s (i := 2) (k' := 5) rfl (by kernel_rfl) (by kernel_rfl) (lN Tryz.isAgg51 Tryz.sizeOf51 rfl (by rfl)) hss rfl ?_
    refine d_c (i := 1) (k' := 7) rfl (by kernel_rfl) Tryz.call40 rfl (wide_Not _ ht) rfl ?_
    refine d_c (i := 3) (k' := 15) rfl (by kernel_rfl) Tryz.call98 rfl ((wide_Div _ _ hnot (by rw [hm]; exact ht1)).to (by rw [hm, if_neg (Nat.succ_ne_zero t)])) rfl ?_
    refine d_y (i := 4) (k' := 31) rfl (by kernel_rfl) (y_move rfl) rfl ?_
    refine d_y (i := 5) (k' := 63) rfl (by kernel_rfl) (y_extract rfl rfl) rfl ?_
    refine d_y (i := 6) (k' := 127) rfl (by kernel_rfl) (y_extract rfl rfl) rfl ?_
    refine d_y (i := 7) (k' := 255) rfl (by kernel_rfl) (y_extract rfl rfl) rfl ?_
    refine d_alloc2 (i := 8) (j := 9) (k1 := 511) (k2 := 767) (k3 := 1023) (psi := wideN 0) (psj := wideN 0) rfl rfl (by kernel_rfl) (by kernel_rfl) (by kernel_rfl) Tryz.zeroValue51 (by kernel_rfl) rfl Tryz.zeroValue51 (by kernel_rfl) rfl rfl hss (fun b5 b6 => ?_)
    refine d_e (i := 10) (k' := 2047) rfl (by kernel_rfl) (stN Tryz.sizeOf51 rfl rfl (by rfl) rfl (by rfl) ( d_past rfl ?_))
    refine d_e (i := 11) (k' := 4095) rfl (by kernel_rfl) (stN Tryz.sizeOf51 rfl rfl (by rfl) rfl (by rfl) ( d_past rfl ?_))
    refine d_y (i := 12) (k' := 8191) rfl (by kernel_rfl) (y_assign rfl) rfl ?_
    refine d_end (by kernel_rfl) ?_
    refine c_seq ?_
    refine c_seq ?_
    refine c_region ?_
    refine seqq (o_y (y_move rfl) rfl ?_)
    refine seqq (o_y (y_neqZ rfl rfl) rfl ?_)
    refine c_nil ?_
    refine c_ifn rfl (fun h26 => ?_) (fun h26 => ?_)
    ·
      exact absurd rfl h26
    ·
      refine c_skip ?_
      refine c_seq ?_
      refine d_reg 7 mixed rfl ?_
      refine d_s (i := 0) (k' := 1) rfl (by kernel_rfl) (by kernel_rfl) (lN Tryz.isAgg51 Tryz.sizeOf51 rfl (by rfl)) hss rfl ?_
      refine d_c (i := 1) (k' := 3) rfl (by kernel_rfl) Tryz.call87 rfl (wide_Of1) rfl ?_
      refine d_c (i := 2) (k' := 7) rfl (by kernel_rfl) Tryz.call43 rfl (wide_Add _ _ hq one_lt) rfl ?_
      refine d_y (i := 3) (k' := 15) rfl (by kernel_rfl) (y_move rfl) rfl ?_
      refine d_y (i := 4) (k' := 31) rfl (by kernel_rfl) (y_extract rfl rfl) rfl ?_
      refine d_y (i := 5) (k' := 63) rfl (by kernel_rfl) (y_extract rfl rfl) rfl ?_
      refine d_e (i := 6) (k' := 127) rfl (by kernel_rfl) (o_alloc (ps := wideN 0) Tryz.zeroValue51 (by kernel_rfl) rfl (fun b8 => d_keep hss ?_))
      refine d_e (i := 7) (k' := 255) rfl (by kernel_rfl) (stN Tryz.sizeOf51 rfl rfl (by rfl) rfl (by rfl) ( d_past rfl ?_))
      refine d_y (i := 8) (k' := 511) rfl (by kernel_rfl) (y_assign rfl) rfl ?_
      refine d_end (by kernel_rfl) ?_
      refine c_seq ?_
      refine c_seq ?_
      refine c_region ?_
      refine seqq (o_y (y_move rfl) rfl ?_)
      refine c_nil ?_
      refine c_if rfl (fun h34 => ?_) (fun h34 => ?_)
      ·
        refine c_seq ?_
        refine c_region ?_
        refine seqq (o_y (y_buildA (zs := wideN 0) Tryz.runUnderlying51 Tryz.sizeOf49 Tryz.zeroValue51 (by kernel_rfl) .nil (by rfl)) rfl ?_)
        refine seqq (o_pure Tryz.call40 rfl (wide_Not 0 z_lt) rfl ?_)
        refine seqq (stN Tryz.sizeOf51 rfl rfl (by rfl) rfl (by rfl) ?_)
        refine c_nil ?_
        refine c_ret ?_
        refine c_done1 Tryz.results69 (rN Tryz.isAgg51 Tryz.sizeOf51 rfl (by rfl)) (fun w hS => ?_)
        refine ⟨?_, hS.none⟩
        have : workT t = M256 - 1 - 0 := by rw [workT, if_neg h15, if_pos h34]; exact (Nat.sub_zero _).symm
        rw [this]; try rfl
      ·
        refine c_skip ?_
        refine c_seq ?_
        refine c_region ?_
        refine seqq (o_y (lN Tryz.isAgg51 Tryz.sizeOf51 rfl (by rfl)) rfl ?_)
        refine seqq (stN Tryz.sizeOf51 rfl rfl (by rfl) rfl (by rfl) ?_)
        refine c_nil ?_
        refine c_ret ?_
        refine c_done1 Tryz.results69 (rN Tryz.isAgg51 Tryz.sizeOf51 rfl (by rfl)) (fun w hS => ?_)
        refine ⟨?_, hS.none⟩
        have : workT t = ((M256 - 1 - t) / (t + 1) + 1) % M256 := by
          rw [workT, if_neg h15, if_neg h34, Nat.mod_eq_of_lt (by omega)]
        rw [this]; try rfl

theorem target_Meets (l : List (BitVec 8)) (hl : l.length = 32) (t : Nat) (ht : t < M256) : Pure Tryz.prog 68 [vagg [leaf .u8 32 l hl], vW t] (.bool (decide (le l ≤ t))) := by
  intro w
  have hle : le l < M256 := by have := le_lt l; rw [hl] at this; exact this
  refine begin0 Tryz.func68 rfl Tryz.ntmps68 rfl ?_
  refine c_seq ?_
  refine c_region ?_
  refine seqq (o_box (T := 26) rfl (IsP.agg).cells rfl (fun b2 => ?_))
  refine seqq (o_box (T := 51) rfl (IsP.agg).cells rfl (fun b3 => ?_))
  refine seqq (o_y (y_assign rfl) rfl ?_)
  refine c_nil ?_
  refine c_seq ?_
  refine d_reg 5 mixed rfl ?_
  refine d_s (i := 0) (k' := 1) rfl (by kernel_rfl) (by kernel_rfl) (lN Tryz.isAgg26 Tryz.sizeOf26 rfl (by rfl)) hss rfl ?_
  refine d_s (i := 2) (k' := 5) rfl (by kernel_rfl) (by kernel_rfl) (lN Tryz.isAgg51 Tryz.sizeOf51 rfl (by rfl)) hss rfl ?_
  refine d_c (i := 1) (k' := 7) rfl (by kernel_rfl) Tryz.call97 rfl (wide_FromBytes l hl) rfl ?_
  refine d_c (i := 3) (k' := 15) rfl (by kernel_rfl) Tryz.call17 rfl (wide_Cmp _ _ hle ht) rfl ?_
  refine d_y (i := 4) (k' := 31) rfl (by kernel_rfl) (y_leqZ rfl rfl) rfl ?_
  refine d_y (i := 5) (k' := 63) rfl (by kernel_rfl) (y_assign rfl) rfl ?_
  refine d_end (by kernel_rfl) ?_
  refine c_ret ?_
  refine c_done1 Tryz.results68 (.tmp rfl) (fun w hS => ?_)
  exact ⟨by congr 1; rw [decide_eq_decide]; split <;> first | omega | (split <;> omega), hS.none⟩

def scaleT (t up by_ most : Nat) : Nat × Int :=
  if by_ = 0 then (0, 5) else if most = 0 then (0, 1) else
  let high := t / by_ * up % M256
  let low := t % by_ * up % M256 / by_
  let out := (high + low) % M256
  if M256 ≤ t / by_ * up ∨ M256 ≤ high + low ∨ most < out then (most, 0) else if out = 0 then (1, 0) else (out, 0)
theorem scaleT_lt (t up by_ most : Nat) (h : most < M256) : (scaleT t up by_ most).1 < M256 := by
  unfold scaleT
  split
  · decide
  · split
    · decide
    · simp only
      split
      · exact h
      · split
        · decide
        · exact Nat.mod_lt _ (by decide)
theorem cmp_gt {a b : Nat} : (0 : Int) < (if a < b then -1 else if b < a then 1 else 0) ↔ b < a := by
  split
  · exact ⟨fun h => absurd h (by decide), fun h => absurd h (by omega)⟩
  · split
    · exact ⟨fun _ => by assumption, fun _ => by decide⟩
    · exact ⟨fun h => absurd h (by decide), fun h => absurd h (by assumption)⟩
theorem u64_lt (x : BitVec 64) : x.toNat < M256 := by have := x.isLt; simp only [M256]; omega

theorem target_Scale (t : Nat) (up by_ : BitVec 64) (most : Nat) (ht : t < M256) (hmost : most < M256) : Pure Tryz.prog 120 [vW t, bv .u64 up, bv .u64 by_, vW most]
    (.tuple #[vW (scaleT t up.toNat by_.toNat most).1, vI (scaleT t up.toNat by_.toNat most).2]) := by
  intro w
  have hby := u64_lt by_
  have hq : t / by_.toNat < M256 := Nat.lt_of_le_of_lt (Nat.div_le_self _ _) ht
  have hr : t % by_.toNat < M256 := Nat.lt_of_le_of_lt (Nat.mod_le _ _) ht
  have hlow : t % by_.toNat * up.toNat % M256 < M256 := Nat.mod_lt _ (by decide)
  have hlow2 : t % by_.toNat * up.toNat % M256 / by_.toNat < M256 := Nat.lt_of_le_of_lt (Nat.div_le_self _ _) hlow
  have hhigh : t / by_.toNat * up.toNat % M256 < M256 := Nat.mod_lt _ (by decide)
  have hout : (t / by_.toNat * up.toNat % M256 + t % by_.toNat * up.toNat % M256 / by_.toNat) % M256 < M256 := Nat.mod_lt _ (by decide)
  refine begin0 Tryz.func120 rfl Tryz.ntmps120 rfl ?_
  refine c_seq ?_
  refine c_region ?_
  refine seqq (o_box (T := 51) rfl (IsP.agg).cells rfl (fun b4 => ?_))
  refine seqq (o_box (T := 51) rfl (IsP.agg).cells rfl (fun b7 => ?_))
  refine seqq (o_alloc (ps := wideN 0) Tryz.zeroValue51 (by kernel_rfl) rfl (fun b8 => ?_))
  refine seqq (o_y (y_assign rfl) rfl ?_)
  refine c_nil ?_
  refine c_seq ?_
  refine c_block ?_
  refine c_seq ?_
  refine c_region ?_
  refine seqq (o_y (y_move rfl) rfl ?_)
  refine seqq (o_y (y_eqlB (Y := 0#64) rfl rfl) rfl ?_)
  refine seqq (o_y (y_assign rfl) rfl ?_)
  refine c_nil ?_
  refine c_if rfl (fun h19 => ?_) (fun h19 => ?_)
  ·
    refine c_seq ?_
    refine c_region ?_
    refine seqq (o_y (y_buildA (zs := wideN 0) Tryz.runUnderlying51 Tryz.sizeOf49 Tryz.zeroValue51 (by kernel_rfl) .nil (by rfl)) rfl ?_)
    refine seqq (stN Tryz.sizeOf51 rfl rfl (by rfl) rfl (by rfl) ?_)
    refine seqq (o_y (y_assign rfl) rfl ?_)
    refine c_nil ?_
    refine c_ret ?_
    refine c_done2 Tryz.results120 (rN Tryz.isAgg51 Tryz.sizeOf51 rfl (by rfl)) (.tmp rfl) (fun w hS => ?_)
    exact ⟨by simp only [scaleT]; simp only [*, if_true, if_false, not_false_eq_true, true_or, or_true, or_false, false_or, or_self, Bool.false_eq_true]; try rfl, hS.none⟩
  ·
    have hb0 : ¬ by_.toNat = 0 := fun h => h19 (BitVec.eq_of_toNat_eq h)
    refine c_seq ?_
    refine c_region ?_
    refine seqq (o_y (lN Tryz.isAgg51 Tryz.sizeOf51 rfl (by rfl)) rfl ?_)
    refine seqq (o_y (y_buildA (zs := wideN 0) Tryz.runUnderlying51 Tryz.sizeOf49 Tryz.zeroValue51 (by kernel_rfl) .nil (by rfl)) rfl ?_)
    refine seqq (o_y (y_eqlA rfl rfl Tryz.eqGuardType51 (eqW (m := 0) hmost z_lt)) rfl ?_)
    refine seqq (o_y (y_assign rfl) rfl ?_)
    refine c_nil ?_
    refine c_if rfl (fun h23 => ?_) (fun h23 => ?_)
    ·
      refine c_seq ?_
      refine c_region ?_
      refine seqq (o_y (y_buildA (zs := wideN 0) Tryz.runUnderlying51 Tryz.sizeOf49 Tryz.zeroValue51 (by kernel_rfl) .nil (by rfl)) rfl ?_)
      refine seqq (stN Tryz.sizeOf51 rfl rfl (by rfl) rfl (by rfl) ?_)
      refine seqq (o_y (y_assign rfl) rfl ?_)
      refine c_nil ?_
      refine c_ret ?_
      refine c_done2 Tryz.results120 (rN Tryz.isAgg51 Tryz.sizeOf51 rfl (by rfl)) (.tmp rfl) (fun w hS => ?_)
      exact ⟨by simp only [scaleT]; simp only [*, if_true, if_false, not_false_eq_true, true_or, or_true, or_false, false_or, or_self, Bool.false_eq_true]; try rfl, hS.none⟩
    ·
      refine c_skip ?_
      refine c_seq ?_
      refine d_reg 10 mixed rfl ?_
      refine d_s (i := 0) (k' := 1) rfl (by kernel_rfl) (by kernel_rfl) (lN Tryz.isAgg51 Tryz.sizeOf51 rfl (by rfl)) hss rfl ?_
      refine d_y (i := 1) (k' := 3) rfl (by kernel_rfl) (y_move rfl) rfl ?_
      refine d_c (i := 2) (k' := 7) rfl (by kernel_rfl) Tryz.call87 rfl (wide_Of _) rfl ?_
      refine d_c (i := 3) (k' := 15) rfl (by kernel_rfl) Tryz.call98 rfl ((wide_Div _ _ ht hby).to (by rw [if_neg hb0])) rfl ?_
      refine d_y (i := 4) (k' := 31) rfl (by kernel_rfl) (y_move rfl) rfl ?_
      refine d_y (i := 5) (k' := 63) rfl (by kernel_rfl) (y_extract rfl rfl) rfl ?_
      refine d_y (i := 6) (k' := 127) rfl (by kernel_rfl) (y_extract rfl rfl) rfl ?_
      refine d_y (i := 7) (k' := 255) rfl (by kernel_rfl) (y_extract rfl rfl) rfl ?_
      refine d_alloc2 (i := 8) (j := 9) (k1 := 511) (k2 := 767) (k3 := 1023) (psi := wideN 0) (psj := wideN 0) rfl rfl (by kernel_rfl) (by kernel_rfl) (by kernel_rfl) Tryz.zeroValue51 (by kernel_rfl) rfl Tryz.zeroValue51 (by kernel_rfl) rfl rfl hss (fun b10 b11 => ?_)
      refine d_e (i := 10) (k' := 2047) rfl (by kernel_rfl) (stN Tryz.sizeOf51 rfl rfl (by rfl) rfl (by rfl) ( d_past rfl ?_))
      refine d_e (i := 11) (k' := 4095) rfl (by kernel_rfl) (stN Tryz.sizeOf51 rfl rfl (by rfl) rfl (by rfl) ( d_past rfl ?_))
      refine d_y (i := 12) (k' := 8191) rfl (by kernel_rfl) (y_assign rfl) rfl ?_
      refine d_end (by kernel_rfl) ?_
      refine c_seq ?_
      refine c_region ?_
      refine seqq (o_y (lN Tryz.isAgg51 Tryz.sizeOf51 rfl (by rfl)) rfl ?_)
      refine seqq (o_y (y_move rfl) rfl ?_)
      refine seqq (o_pure Tryz.call133 rfl (wide_Mul _ _ hq) rfl ?_)
      refine seqq (o_y (y_move rfl) rfl ?_)
      refine seqq (o_y (y_extract rfl rfl) rfl ?_)
      refine seqq (o_y (y_extract rfl rfl) rfl ?_)
      refine seqq (o_alloc (ps := wideN 0) Tryz.zeroValue51 (by kernel_rfl) rfl (fun b13 => ?_))
      refine seqq (stN Tryz.sizeOf51 rfl rfl (by rfl) rfl (by rfl) ?_)
      refine seqq (o_y (y_assign rfl) rfl ?_)
      refine c_nil ?_
      refine c_seq ?_
      refine c_region ?_
      refine seqq (o_y (lN Tryz.isAgg51 Tryz.sizeOf51 rfl (by rfl)) rfl ?_)
      refine seqq (o_y (y_move rfl) rfl ?_)
      refine seqq (o_pure Tryz.call133 rfl (wide_Mul _ _ hr) rfl ?_)
      refine seqq (o_y (y_move rfl) rfl ?_)
      refine seqq (o_y (y_extract rfl rfl) rfl ?_)
      refine seqq (o_y (y_extract rfl rfl) rfl ?_)
      refine seqq (o_alloc (ps := wideN 0) Tryz.zeroValue51 (by kernel_rfl) rfl (fun b15 => ?_))
      refine seqq (stN Tryz.sizeOf51 rfl rfl (by rfl) rfl (by rfl) ?_)
      refine seqq (o_y (y_assign rfl) rfl ?_)
      refine c_nil ?_
      refine c_seq ?_
      refine d_reg 8 mixed rfl ?_
      refine d_s (i := 0) (k' := 1) rfl (by kernel_rfl) (by kernel_rfl) (lN Tryz.isAgg51 Tryz.sizeOf51 rfl (by rfl)) hss rfl ?_
      refine d_y (i := 1) (k' := 3) rfl (by kernel_rfl) (y_move rfl) rfl ?_
      refine d_c (i := 2) (k' := 7) rfl (by kernel_rfl) Tryz.call87 rfl (wide_Of _) rfl ?_
      refine d_c (i := 3) (k' := 15) rfl (by kernel_rfl) Tryz.call98 rfl ((wide_Div _ _ hlow hby).to (by rw [if_neg hb0])) rfl ?_
      refine d_y (i := 4) (k' := 31) rfl (by kernel_rfl) (y_move rfl) rfl ?_
      refine d_y (i := 5) (k' := 63) rfl (by kernel_rfl) (y_extract rfl rfl) rfl ?_
      refine d_y (i := 6) (k' := 127) rfl (by kernel_rfl) (y_extract rfl rfl) rfl ?_
      refine d_y (i := 7) (k' := 255) rfl (by kernel_rfl) (y_extract rfl rfl) rfl ?_
      refine d_e (i := 8) (k' := 511) rfl (by kernel_rfl) (stN Tryz.sizeOf51 rfl rfl (by rfl) rfl (by rfl) ( d_past rfl ?_))
      refine d_end (by kernel_rfl) ?_
      refine c_seq ?_
      refine c_region ?_
      refine seqq (o_y (lN Tryz.isAgg51 Tryz.sizeOf51 rfl (by rfl)) rfl ?_)
      refine seqq (o_y (lN Tryz.isAgg51 Tryz.sizeOf51 rfl (by rfl)) rfl ?_)
      refine seqq (o_pure Tryz.call43 rfl (wide_Add _ _ hhigh hlow2) rfl ?_)
      refine seqq (o_y (y_move rfl) rfl ?_)
      refine seqq (o_y (y_extract rfl rfl) rfl ?_)
      refine seqq (o_y (y_extract rfl rfl) rfl ?_)
      refine seqq (o_alloc (ps := wideN 0) Tryz.zeroValue51 (by kernel_rfl) rfl (fun b17 => ?_))
      refine seqq (stN Tryz.sizeOf51 rfl rfl (by rfl) rfl (by rfl) ?_)
      refine seqq (o_y (y_assign rfl) rfl ?_)
      refine c_nil ?_
      refine c_seq ?_
      refine c_seq ?_
      refine c_region ?_
      refine seqq (o_y (y_move rfl) rfl ?_)
      refine seqq (o_y (y_move rfl) rfl ?_)
      refine j_if 63 rfl (fun h63 => ?_) (fun h63 => ?_)
      ·
        refine seqq (guard_false (c := true) rfl rfl rfl rfl ?_)
        refine seqq (o_y (y_pick_t rfl rfl) rfl ?_)
        refine seqq (o_y (y_move rfl) rfl ?_)
        refine seqq (guard_false (c := true) rfl rfl rfl rfl ?_)
        refine seqq (guard_false (c := true) rfl rfl rfl rfl ?_)
        refine seqq (guard_false (c := true) rfl rfl rfl rfl ?_)
        refine seqq (guard_false (c := true) rfl rfl rfl rfl ?_)
        refine seqq (o_y (y_pick_t rfl rfl) rfl ?_)
        refine c_nil ?_
        refine c_condT rfl ?_
        refine c_seq ?_
        refine c_region ?_
        refine seqq (o_y (lN Tryz.isAgg51 Tryz.sizeOf51 rfl (by rfl)) rfl ?_)
        refine seqq (stN Tryz.sizeOf51 rfl rfl (by rfl) rfl (by rfl) ?_)
        refine seqq (o_y (y_assign rfl) rfl ?_)
        refine c_nil ?_
        refine c_ret ?_
        refine c_done2 Tryz.results120 (rN Tryz.isAgg51 Tryz.sizeOf51 rfl (by rfl)) (.tmp rfl) (fun w hS => ?_)
        exact ⟨by simp only [scaleT]; simp only [*, if_true, if_false, not_false_eq_true, true_or, or_true, or_false, false_or, or_self, Bool.false_eq_true]; try rfl, hS.none⟩
      ·
        refine seqq (guard_true rfl rfl (o_y (y_move rfl) rfl ?_))
        refine seqq (o_y (y_pick_f rfl rfl) rfl ?_)
        refine seqq (o_y (y_move rfl) rfl ?_)
        refine j_if 66 rfl (fun h66 => ?_) (fun h66 => ?_)
        ·
          refine seqq (guard_false (c := true) rfl rfl rfl rfl ?_)
          refine seqq (guard_false (c := true) rfl rfl rfl rfl ?_)
          refine seqq (guard_false (c := true) rfl rfl rfl rfl ?_)
          refine seqq (guard_false (c := true) rfl rfl rfl rfl ?_)
          refine seqq (o_y (y_pick_t rfl rfl) rfl ?_)
          refine c_nil ?_
          refine c_condT rfl ?_
          refine c_seq ?_
          refine c_region ?_
          refine seqq (o_y (lN Tryz.isAgg51 Tryz.sizeOf51 rfl (by rfl)) rfl ?_)
          refine seqq (stN Tryz.sizeOf51 rfl rfl (by rfl) rfl (by rfl) ?_)
          refine seqq (o_y (y_assign rfl) rfl ?_)
          refine c_nil ?_
          refine c_ret ?_
          refine c_done2 Tryz.results120 (rN Tryz.isAgg51 Tryz.sizeOf51 rfl (by rfl)) (.tmp rfl) (fun w hS => ?_)
          exact ⟨by simp only [scaleT]; simp only [*, if_true, if_false, not_false_eq_true, true_or, or_true, or_false, false_or, or_self, Bool.false_eq_true]; try rfl, hS.none⟩
        ·
          refine seqq (guard_true rfl rfl (o_y (lN Tryz.isAgg51 Tryz.sizeOf51 rfl (by rfl)) rfl ?_))
          refine seqq (guard_true rfl rfl (o_y (lN Tryz.isAgg51 Tryz.sizeOf51 rfl (by rfl)) rfl ?_))
          refine seqq (guard_true rfl rfl (o_pure Tryz.call17 rfl (wide_Cmp _ _ hout hmost) rfl ?_))
          refine seqq (guard_true rfl rfl (o_y (y_gtrZ rfl rfl) rfl ?_))
          refine seqq (o_y (y_pick_f rfl rfl) rfl ?_)
          refine c_nil ?_
          refine c_if rfl (fun h71 => ?_) (fun h71 => ?_)
          ·
            have h71x := cmp_gt.1 h71
            refine c_seq ?_
            refine c_region ?_
            refine seqq (o_y (lN Tryz.isAgg51 Tryz.sizeOf51 rfl (by rfl)) rfl ?_)
            refine seqq (stN Tryz.sizeOf51 rfl rfl (by rfl) rfl (by rfl) ?_)
            refine seqq (o_y (y_assign rfl) rfl ?_)
            refine c_nil ?_
            refine c_ret ?_
            refine c_done2 Tryz.results120 (rN Tryz.isAgg51 Tryz.sizeOf51 rfl (by rfl)) (.tmp rfl) (fun w hS => ?_)
            exact ⟨by simp only [scaleT]; simp only [*, if_true, if_false, not_false_eq_true, true_or, or_true, or_false, false_or, or_self, Bool.false_eq_true]; try rfl, hS.none⟩
          ·
            have h71x := mt cmp_gt.2 h71
            refine c_skip ?_
            refine c_seq ?_
            refine c_seq ?_
            refine c_region ?_
            refine seqq (o_y (lN Tryz.isAgg51 Tryz.sizeOf51 rfl (by rfl)) rfl ?_)
            refine seqq (o_y (y_buildA (zs := wideN 0) Tryz.runUnderlying51 Tryz.sizeOf49 Tryz.zeroValue51 (by kernel_rfl) .nil (by rfl)) rfl ?_)
            refine seqq (o_y (y_eqlA rfl rfl Tryz.eqGuardType51 (eqW (m := 0) hout z_lt)) rfl ?_)
            refine c_nil ?_
            refine c_if rfl (fun h75 => ?_) (fun h75 => ?_)
            ·
              refine c_seq ?_
              refine c_region ?_
              refine seqq (o_pure Tryz.call87 rfl (wide_Of1) rfl ?_)
              refine seqq (stN Tryz.sizeOf51 rfl rfl (by rfl) rfl (by rfl) ?_)
              refine seqq (o_y (y_assign rfl) rfl ?_)
              refine c_nil ?_
              refine c_ret ?_
              refine c_done2 Tryz.results120 (rN Tryz.isAgg51 Tryz.sizeOf51 rfl (by rfl)) (.tmp rfl) (fun w hS => ?_)
              exact ⟨by simp only [scaleT]; simp only [*, if_true, if_false, not_false_eq_true, true_or, or_true, or_false, false_or, or_self, Bool.false_eq_true]; try rfl, hS.none⟩
            ·
              refine c_skip ?_
              refine c_seq ?_
              refine c_region ?_
              refine seqq (o_y (lN Tryz.isAgg51 Tryz.sizeOf51 rfl (by rfl)) rfl ?_)
              refine seqq (stN Tryz.sizeOf51 rfl rfl (by rfl) rfl (by rfl) ?_)
              refine seqq (o_y (y_assign rfl) rfl ?_)
              refine c_nil ?_
              refine c_ret ?_
              refine c_done2 Tryz.results120 (rN Tryz.isAgg51 Tryz.sizeOf51 rfl (by rfl)) (.tmp rfl) (fun w hS => ?_)
              exact ⟨by simp only [scaleT]; simp only [*, if_true, if_false, not_false_eq_true, true_or, or_true, or_false, false_or, or_self, Bool.false_eq_true]; try rfl, hS.none⟩
