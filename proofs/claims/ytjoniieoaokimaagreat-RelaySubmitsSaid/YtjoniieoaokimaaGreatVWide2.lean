/- Walks and laws of this claim, part Wide2. -/
import Derived.Test.YtjoniieoaokimaaGreatVNum5
import Derived.Test.YtjoniieoaokimaaGreatVWide
set_option linter.unusedVariables false
set_option linter.unusedSimpArgs false
set_option linter.unusedSectionVars false
set_option autoImplicit true
set_option relaxedAutoImplicit true
set_option maxRecDepth 100000
set_option maxHeartbeats 1000000
namespace Go.Proofs
open V
/-- two numbers, compared -/
theorem eqW {n m : Nat} (hn : n < M256) (hm : m < M256) : EqR Tryz.prog 10000 51 (vW n) (vW m) (decide (n = m)) :=
  eq_wide (ei := Tryz.t49) hn hm Tryz.underlying51 Tryz.underlying49 Tryz.isAgg49 (by kernel_rfl) (by kernel_rfl)

theorem wide_Mul0 (a b c d x : BitVec 64) : Pure Tryz.prog 133 [vagg (wide a b c d), bv .u64 x]
    (.tuple #[vagg (wide (wmul a b c d x).1.1 (wmul a b c d x).1.2.1 (wmul a b c d x).1.2.2.1 (wmul a b c d x).1.2.2.2), .bool (decide (0 < (wmul a b c d x).2.toNat))]) := by
  intro w
  refine begin0 Tryz.func133 rfl Tryz.ntmps133 rfl ?_
  refine c_seq ?_
  refine c_region ?_
  refine seqq (o_box (T := 51) rfl (IsP.agg).cells rfl (fun b2 => ?_))
  refine seqq (o_alloc (ps := [P1 (bv .u64 0#64), P1 (bv .u64 0#64), P1 (bv .u64 0#64), P1 (bv .u64 0#64)]) Tryz.zeroValue51 (by kernel_rfl) rfl (fun b4 => ?_))
  refine seqq (o_y (y_assign rfl) rfl ?_)
  refine c_nil ?_
  refine c_seq ?_
  refine c_region ?_
  refine seqq (o_alloc (ps := [P1 (bv .u64 0#64), P1 (bv .u64 0#64), P1 (bv .u64 0#64), P1 (bv .u64 0#64)]) Tryz.zeroValue51 (by kernel_rfl) rfl (fun b6 => ?_))
  refine c_nil ?_
  refine c_seq ?_
  refine c_region ?_
  refine seqq (o_y (y_assign (v := bv .u64 0#64) rfl) rfl ?_)
  refine c_nil ?_
  refine c_seq ?_
  refine c_seq ?_
  refine c_region ?_
  refine seqq (o_y (y_move rfl) rfl ?_)
  refine c_nil ?_
  refine c_block ?_
  refine c_loop 5 ?_
  refine c_round ?_
  refine c_seq ?_
  refine c_region ?_
  refine seqq (o_y (y_binZ (v := .bool true) rfl rfl (fun _ => by rfl)) rfl ?_)
  refine c_nil ?_
  refine c_seq ?_
  refine c_condT rfl ?_
  refine c_skip ?_
  refine c_seq ?_
  refine c_block ?_
  refine c_seq ?_
  refine c_region ?_
  refine seqq (o_y (y_move rfl) rfl ?_)
  refine seqq (o_y (y_assign rfl) rfl ?_)
  refine c_nil ?_
  refine c_seq ?_
  refine c_region ?_
  refine seqq (o_y (y_move rfl) rfl ?_)
  refine seqq (o_y (y_indexAddrA Tryz.runUnderlying51 Tryz.sizeOf49 rfl rfl (by decide)) rfl ?_)
  refine seqq (o_y (l1 Tryz.isAgg49 rfl (by rfl)) rfl ?_)
  refine seqq (o_y (y_move rfl) rfl ?_)
  refine seqq (o_pure Tryz.call141 rfl (bits_Mul64 _ _) rfl ?_)
  refine seqq (o_y (y_move rfl) rfl ?_)
  refine seqq (o_y (y_extract rfl rfl) rfl ?_)
  refine seqq (o_y (y_extract rfl rfl) rfl ?_)
  refine seqq (o_y (y_assign rfl) rfl ?_)
  refine seqq (o_y (y_assign rfl) rfl ?_)
  refine c_nil ?_
  refine c_seq ?_
  refine c_region ?_
  refine seqq (o_y (y_assign (v := bv .u64 0#64) rfl) rfl ?_)
  refine c_nil ?_
  refine c_seq ?_
  refine c_region ?_
  refine seqq (o_y (y_move rfl) rfl ?_)
  refine seqq (o_y (y_move rfl) rfl ?_)
  refine seqq (o_y (y_move rfl) rfl ?_)
  refine seqq (o_y (y_add64 (C := 0#64) f_add64 rfl rfl rfl (by decide)) rfl ?_)
  refine seqq (o_y (y_move rfl) rfl ?_)
  refine seqq (o_y (y_extract rfl rfl) rfl ?_)
  refine seqq (o_y (y_extract rfl rfl) rfl ?_)
  refine seqq (o_y (y_indexAddrA Tryz.runUnderlying51 Tryz.sizeOf49 rfl rfl (by decide)) rfl ?_)
  refine seqq (st1 (h1 := rfl) Tryz.sizeOf49 rfl rfl (by rfl) (by rfl) ?_)
  refine seqq (o_y (y_assign rfl) rfl ?_)
  refine c_nil ?_
  refine c_region ?_
  refine seqq (o_y (y_move rfl) rfl ?_)
  refine seqq (o_y (y_move rfl) rfl ?_)
  refine seqq (o_y (y_addB UK.u64 rfl rfl) rfl ?_)
  refine seqq (o_y (y_assign rfl) rfl ?_)
  refine c_nil ?_
  refine c_region ?_
  refine seqq (o_y (y_binZ (v := .int .i64 1) rfl rfl (fun _ => by rfl)) rfl ?_)
  refine seqq (o_y (y_move rfl) rfl ?_)
  refine c_nil ?_
  refine c_round ?_
  refine c_seq ?_
  refine c_region ?_
  refine seqq (o_y (y_binZ (v := .bool true) rfl rfl (fun _ => by rfl)) rfl ?_)
  refine c_nil ?_
  refine c_seq ?_
  refine c_condT rfl ?_
  refine c_skip ?_
  refine c_seq ?_
  refine c_block ?_
  refine c_seq ?_
  refine c_region ?_
  refine seqq (o_y (y_move rfl) rfl ?_)
  refine seqq (o_y (y_assign rfl) rfl ?_)
  refine c_nil ?_
  refine c_seq ?_
  refine c_region ?_
  refine seqq (o_y (y_move rfl) rfl ?_)
  refine seqq (o_y (y_indexAddrA Tryz.runUnderlying51 Tryz.sizeOf49 rfl rfl (by decide)) rfl ?_)
  refine seqq (o_y (l1 Tryz.isAgg49 rfl (by rfl)) rfl ?_)
  refine seqq (o_y (y_move rfl) rfl ?_)
  refine seqq (o_pure Tryz.call141 rfl (bits_Mul64 _ _) rfl ?_)
  refine seqq (o_y (y_move rfl) rfl ?_)
  refine seqq (o_y (y_extract rfl rfl) rfl ?_)
  refine seqq (o_y (y_extract rfl rfl) rfl ?_)
  refine seqq (o_y (y_assign rfl) rfl ?_)
  refine seqq (o_y (y_assign rfl) rfl ?_)
  refine c_nil ?_
  refine c_seq ?_
  refine c_region ?_
  refine seqq (o_y (y_assign (v := bv .u64 0#64) rfl) rfl ?_)
  refine c_nil ?_
  refine c_seq ?_
  refine c_region ?_
  refine seqq (o_y (y_move rfl) rfl ?_)
  refine seqq (o_y (y_move rfl) rfl ?_)
  refine seqq (o_y (y_move rfl) rfl ?_)
  refine seqq (o_y (y_add64 (C := 0#64) f_add64 rfl rfl rfl (by decide)) rfl ?_)
  refine seqq (o_y (y_move rfl) rfl ?_)
  refine seqq (o_y (y_extract rfl rfl) rfl ?_)
  refine seqq (o_y (y_extract rfl rfl) rfl ?_)
  refine seqq (o_y (y_indexAddrA Tryz.runUnderlying51 Tryz.sizeOf49 rfl rfl (by decide)) rfl ?_)
  refine seqq (st1 (h1 := rfl) Tryz.sizeOf49 rfl rfl (by rfl) (by rfl) ?_)
  refine seqq (o_y (y_assign rfl) rfl ?_)
  refine c_nil ?_
  refine c_region ?_
  refine seqq (o_y (y_move rfl) rfl ?_)
  refine seqq (o_y (y_move rfl) rfl ?_)
  refine seqq (o_y (y_addB UK.u64 rfl rfl) rfl ?_)
  refine seqq (o_y (y_assign rfl) rfl ?_)
  refine c_nil ?_
  refine c_region ?_
  refine seqq (o_y (y_binZ (v := .int .i64 2) rfl rfl (fun _ => by rfl)) rfl ?_)
  refine seqq (o_y (y_move rfl) rfl ?_)
  refine c_nil ?_
  refine c_round ?_
  refine c_seq ?_
  refine c_region ?_
  refine seqq (o_y (y_binZ (v := .bool true) rfl rfl (fun _ => by rfl)) rfl ?_)
  refine c_nil ?_
  refine c_seq ?_
  refine c_condT rfl ?_
  refine c_skip ?_
  refine c_seq ?_
  refine c_block ?_
  refine c_seq ?_
  refine c_region ?_
  refine seqq (o_y (y_move rfl) rfl ?_)
  refine seqq (o_y (y_assign rfl) rfl ?_)
  refine c_nil ?_
  refine c_seq ?_
  refine c_region ?_
  refine seqq (o_y (y_move rfl) rfl ?_)
  refine seqq (o_y (y_indexAddrA Tryz.runUnderlying51 Tryz.sizeOf49 rfl rfl (by decide)) rfl ?_)
  refine seqq (o_y (l1 Tryz.isAgg49 rfl (by rfl)) rfl ?_)
  refine seqq (o_y (y_move rfl) rfl ?_)
  refine seqq (o_pure Tryz.call141 rfl (bits_Mul64 _ _) rfl ?_)
  refine seqq (o_y (y_move rfl) rfl ?_)
  refine seqq (o_y (y_extract rfl rfl) rfl ?_)
  refine seqq (o_y (y_extract rfl rfl) rfl ?_)
  refine seqq (o_y (y_assign rfl) rfl ?_)
  refine seqq (o_y (y_assign rfl) rfl ?_)
  refine c_nil ?_
  refine c_seq ?_
  refine c_region ?_
  refine seqq (o_y (y_assign (v := bv .u64 0#64) rfl) rfl ?_)
  refine c_nil ?_
  refine c_seq ?_
  refine c_region ?_
  refine seqq (o_y (y_move rfl) rfl ?_)
  refine seqq (o_y (y_move rfl) rfl ?_)
  refine seqq (o_y (y_move rfl) rfl ?_)
  refine seqq (o_y (y_add64 (C := 0#64) f_add64 rfl rfl rfl (by decide)) rfl ?_)
  refine seqq (o_y (y_move rfl) rfl ?_)
  refine seqq (o_y (y_extract rfl rfl) rfl ?_)
  refine seqq (o_y (y_extract rfl rfl) rfl ?_)
  refine seqq (o_y (y_indexAddrA Tryz.runUnderlying51 Tryz.sizeOf49 rfl rfl (by decide)) rfl ?_)
  refine seqq (st1 (h1 := rfl) Tryz.sizeOf49 rfl rfl (by rfl) (by rfl) ?_)
  refine seqq (o_y (y_assign rfl) rfl ?_)
  refine c_nil ?_
  refine c_region ?_
  refine seqq (o_y (y_move rfl) rfl ?_)
  refine seqq (o_y (y_move rfl) rfl ?_)
  refine seqq (o_y (y_addB UK.u64 rfl rfl) rfl ?_)
  refine seqq (o_y (y_assign rfl) rfl ?_)
  refine c_nil ?_
  refine c_region ?_
  refine seqq (o_y (y_binZ (v := .int .i64 3) rfl rfl (fun _ => by rfl)) rfl ?_)
  refine seqq (o_y (y_move rfl) rfl ?_)
  refine c_nil ?_
  refine c_round ?_
  refine c_seq ?_
  refine c_region ?_
  refine seqq (o_y (y_binZ (v := .bool true) rfl rfl (fun _ => by rfl)) rfl ?_)
  refine c_nil ?_
  refine c_seq ?_
  refine c_condT rfl ?_
  refine c_skip ?_
  refine c_seq ?_
  refine c_block ?_
  refine c_seq ?_
  refine c_region ?_
  refine seqq (o_y (y_move rfl) rfl ?_)
  refine seqq (o_y (y_assign rfl) rfl ?_)
  refine c_nil ?_
  refine c_seq ?_
  refine c_region ?_
  refine seqq (o_y (y_move rfl) rfl ?_)
  refine seqq (o_y (y_indexAddrA Tryz.runUnderlying51 Tryz.sizeOf49 rfl rfl (by decide)) rfl ?_)
  refine seqq (o_y (l1 Tryz.isAgg49 rfl (by rfl)) rfl ?_)
  refine seqq (o_y (y_move rfl) rfl ?_)
  refine seqq (o_pure Tryz.call141 rfl (bits_Mul64 _ _) rfl ?_)
  refine seqq (o_y (y_move rfl) rfl ?_)
  refine seqq (o_y (y_extract rfl rfl) rfl ?_)
  refine seqq (o_y (y_extract rfl rfl) rfl ?_)
  refine seqq (o_y (y_assign rfl) rfl ?_)
  refine seqq (o_y (y_assign rfl) rfl ?_)
  refine c_nil ?_
  refine c_seq ?_
  refine c_region ?_
  refine seqq (o_y (y_assign (v := bv .u64 0#64) rfl) rfl ?_)
  refine c_nil ?_
  refine c_seq ?_
  refine c_region ?_
  refine seqq (o_y (y_move rfl) rfl ?_)
  refine seqq (o_y (y_move rfl) rfl ?_)
  refine seqq (o_y (y_move rfl) rfl ?_)
  refine seqq (o_y (y_add64 (C := 0#64) f_add64 rfl rfl rfl (by decide)) rfl ?_)
  refine seqq (o_y (y_move rfl) rfl ?_)
  refine seqq (o_y (y_extract rfl rfl) rfl ?_)
  refine seqq (o_y (y_extract rfl rfl) rfl ?_)
  refine seqq (o_y (y_indexAddrA Tryz.runUnderlying51 Tryz.sizeOf49 rfl rfl (by decide)) rfl ?_)
  refine seqq (st1 (h1 := rfl) Tryz.sizeOf49 rfl rfl (by rfl) (by rfl) ?_)
  refine seqq (o_y (y_assign rfl) rfl ?_)
  refine c_nil ?_
  refine c_region ?_
  refine seqq (o_y (y_move rfl) rfl ?_)
  refine seqq (o_y (y_move rfl) rfl ?_)
  refine seqq (o_y (y_addB UK.u64 rfl rfl) rfl ?_)
  refine seqq (o_y (y_assign rfl) rfl ?_)
  refine c_nil ?_
  refine c_region ?_
  refine seqq (o_y (y_binZ (v := .int .i64 4) rfl rfl (fun _ => by rfl)) rfl ?_)
  refine seqq (o_y (y_move rfl) rfl ?_)
  refine c_nil ?_
  refine c_round ?_
  refine c_seq ?_
  refine c_region ?_
  refine seqq (o_y (y_binZ (v := .bool false) rfl rfl (fun _ => by rfl)) rfl ?_)
  refine c_nil ?_
  refine c_seq ?_
  refine c_condF rfl ?_
  refine c_exit ?_
  refine c_seq ?_
  refine c_region ?_
  refine seqq (o_y (lN Tryz.isAgg51 Tryz.sizeOf51 rfl (by rfl)) rfl ?_)
  refine seqq (o_y (y_move rfl) rfl ?_)
  refine seqq (o_y (y_gtrB (Y := 0#64) rfl rfl) rfl ?_)
  refine seqq (stN Tryz.sizeOf51 rfl rfl (by rfl) rfl (by rfl) ?_)
  refine seqq (o_y (y_assign rfl) rfl ?_)
  refine c_nil ?_
  refine c_ret ?_
  refine c_done2 Tryz.results133 (rN Tryz.isAgg51 Tryz.sizeOf51 rfl (by rfl)) (.tmp rfl) (fun w hS => ?_)
  exact ⟨rfl, hS.none⟩

theorem wide_Mul (n : Nat) (x : BitVec 64) (hn : n < M256) : Pure Tryz.prog 133 [vW n, bv .u64 x] (.tuple #[vW (n * x.toNat % M256), .bool (decide (M256 ≤ n * x.toNat))]) := by
  refine (wide_Mul0 _ _ _ _ _).to ?_
  obtain ⟨h1, h2⟩ := wmul_eq (nw n 0) (nw n 1) (nw n 2) (nw n 3) x
  rw [wn_nw hn] at h1 h2
  rw [vW_eq h1, decide_eq_decide.2 h2]
theorem zero_wide {m : Nat} (h : m = 0) : [P1 (bv .u64 0#64), P1 (bv .u64 0#64), P1 (bv .u64 0#64), P1 (bv .u64 0#64)] = wideN m := by subst h; rfl
theorem le_take (l : List (BitVec 8)) (i : Nat) (h : i < l.length) : le (l.take (i + 1)) = le (l.take i) + (l.getD i 0#8).toNat * 256 ^ i := by
  have : l.getD i 0#8 = l[i] := by simp [List.getD, List.getElem?_eq_getElem h]
  rw [List.take_succ_eq_append_getElem h, le_snoc, List.length_take, Nat.min_eq_left (Nat.le_of_lt h), this]

theorem fb_step (l : List (BitVec 8)) (hl : l.length = 32) (i : Nat) (hi : i < 32) (q : Nat) (hq : q < 4) :
    nw (le (l.take (i + 1))) q = if q = i / 8 then nw (le (l.take i)) (i / 8) ||| ((l.getD i 0#8).setWidth 64 <<< (8 * (i % 8))) else nw (le (l.take i)) q := by
  rw [le_take l i (by omega)]
  refine byte_words _ i _ ?_ hi q hq
  have := le_lt (l.take i)
  rwa [List.length_take, Nat.min_eq_left (by omega)] at this

theorem wide_FromBytes (l : List (BitVec 8)) (hl : l.length = 32) : Pure Tryz.prog 97 [vagg [leaf .u8 32 l hl]] (vW (le l)) := by
  intro w
  refine begin0 Tryz.func97 rfl Tryz.ntmps97 rfl ?_
  refine c_seq ?_
  refine c_region ?_
  refine seqq (o_box (T := 25) rfl (IsP.agg).cells rfl (fun b1 => ?_))
  refine seqq (o_alloc (ps := [P1 (bv .u64 0#64), P1 (bv .u64 0#64), P1 (bv .u64 0#64), P1 (bv .u64 0#64)]) Tryz.zeroValue51 (by kernel_rfl) rfl (fun b2 => ?_))
  refine c_nil ?_
  refine c_seq ?_
  refine c_region ?_
  refine seqq (o_alloc (ps := [P1 (bv .u64 0#64), P1 (bv .u64 0#64), P1 (bv .u64 0#64), P1 (bv .u64 0#64)]) Tryz.zeroValue51 (by kernel_rfl) rfl (fun b3 => ?_))
  refine j_obj b3 (ps' := wideN (le (l.take 0))) (zero_wide (by simp [le])) (by rfl) ?_
  refine c_nil ?_
  refine c_seq ?_
  refine c_seq ?_
  refine c_region ?_
  refine seqq (o_y (lN Tryz.isAgg25 Tryz.sizeOf25 rfl (by rfl)) rfl ?_)
  refine seqq (o_y (y_move rfl) rfl ?_)
  refine c_nil ?_
  refine c_block ?_
  refine c_while (X := Nat) [2, 3, 6] [b2] rfl (fun Ek i => (7, vI (i : Int)) :: Ek) (fun Mk i => [(b3, obj 51 (wideN (le (l.take i))))] :: Mk) (fun i => i ≤ 32) (fun i => 32 - i) 0 (by omega) ⟨rfl, rfl, rfl, rfl, trivial⟩ ?_
  intro i hi
  refine c_seq ?_
  refine c_region ?_
  refine seqq (o_y (y_lssZ rfl rfl) rfl ?_)
  refine c_nil ?_
  refine c_seq ?_
  refine c_if rfl (fun h8 => ?_) (fun h8 => ?_)
  ·
    refine c_skip ?_
    refine c_seq ?_
    refine c_block ?_
    refine c_seq ?_
    refine c_region ?_
    refine seqq (o_y (y_move rfl) rfl ?_)
    refine seqq (o_y (y_indexL Tryz.runUnderlying25 Tryz.isAgg5 Tryz.sizeOf5 rfl rfl (by omega)) rfl ?_)
    refine seqq (o_y (y_assign rfl) rfl ?_)
    refine seqq (o_y (y_assign rfl) rfl ?_)
    refine c_nil ?_
    refine d_reg 12 mixed rfl ?_
    refine d_y (i := 0) (k' := 1) rfl (by kernel_rfl) (y_move rfl) rfl ?_
    refine d_y (i := 1) (k' := 3) rfl (by kernel_rfl) (y_quoI rfl rfl (by omega)) rfl ?_
    refine d_y (i := 2) (k' := 7) rfl (by kernel_rfl) (y_indexAddrA Tryz.runUnderlying51 Tryz.sizeOf49 rfl rfl (by omega)) rfl ?_
    refine d_s (i := 3) (k' := 15) rfl (by kernel_rfl) (by kernel_rfl) (lW (i / 8) Tryz.isAgg49 rfl (by omega) (by omega)) hss rfl ?_
    refine d_y (i := 4) (k' := 31) rfl (by kernel_rfl) (y_move rfl) rfl ?_
    refine d_y (i := 5) (k' := 63) rfl (by kernel_rfl) (y_convB UK.u64 Tryz.runUnderlying5 Tryz.runUnderlying49 rfl) rfl ?_
    refine d_y (i := 6) (k' := 127) rfl (by kernel_rfl) (y_move rfl) rfl ?_
    refine d_y (i := 7) (k' := 255) rfl (by kernel_rfl) (y_remI rfl rfl (by omega)) rfl ?_
    refine d_y (i := 8) (k' := 511) rfl (by kernel_rfl) (y_mulI rfl rfl (by omega)) rfl ?_
    refine j_re 19 rfl (show vI (8 * ((i : Int) % 8)) = vI ((8 * (i % 8) : Nat) : Int) from by congr 1 <;> omega) ?_
    refine d_y (i := 9) (k' := 1023) rfl (by kernel_rfl) (y_shlB UK.u64 rfl rfl) rfl ?_
    refine d_y (i := 10) (k' := 2047) rfl (by kernel_rfl) (y_orB UK.u64 rfl rfl) rfl ?_
    refine d_y (i := 11) (k' := 4095) rfl (by kernel_rfl) (y_indexAddrA Tryz.runUnderlying51 Tryz.sizeOf49 rfl rfl (by omega)) rfl ?_
    refine d_e (i := 12) (k' := 8191) rfl (by kernel_rfl) (stW (i / 8) (le (l.take (i + 1))) Tryz.sizeOf49 rfl rfl (by omega) (by omega) (fb_step l hl i (by omega)) (by rfl) ( d_past rfl ?_))
    refine d_end (by kernel_rfl) ?_
    refine c_region ?_
    refine seqq (o_y (y_addI rfl rfl (by omega)) rfl ?_)
    refine seqq (o_y (y_move rfl) rfl ?_)
    refine c_nil ?_
    exact c_next (i + 1) (by omega) (by omega) ⟨rfl, rfl, rfl, rfl, trivial⟩
  ·
    refine c_exit ?_
    refine c_seq ?_
    refine c_region ?_
    refine seqq (o_y (lN Tryz.isAgg51 Tryz.sizeOf51 rfl (by rfl)) rfl ?_)
    refine seqq (stN Tryz.sizeOf51 rfl rfl (by rfl) rfl (by rfl) ?_)
    refine c_nil ?_
    refine c_ret ?_
    refine c_done1 Tryz.results97 (rN Tryz.isAgg51 Tryz.sizeOf51 rfl (by rfl)) (fun w hS => ?_)
    exact ⟨by rw [List.take_of_length_le (by omega)], hS.none⟩

theorem wide_Left1 (n : Nat) (hn : n < M256) : Pure Tryz.prog 89 [vW n, vI 1] (vW (2 * n % M256)) :=
  (wide_Left n 1 hn).to (by rw [if_pos (by decide)]; show vW (n * 2 ^ 1 % M256) = _; rw [Nat.pow_one, Nat.mul_comm])
theorem half_mod (r : Nat) : 2 * r % M256 = 2 * (r % 57896044618658097711785492504343953926634992332820282019728792003956564819968) := by simp only [M256]; omega
theorem div_yes {x y j : Nat} (hy : 0 < y) (h : y ≤ 2 * (x / 2 ^ (j + 1) % y) + x / 2 ^ j % 2) : x / 2 ^ (j + 1) / y * 2 ^ (j + 1) + 2 ^ j = x / 2 ^ j / y * 2 ^ j ∧ 2 * (x / 2 ^ (j + 1) % y) + x / 2 ^ j % 2 - y = x / 2 ^ j % y := by
  obtain ⟨h1, h2⟩ := div_step x y j hy
  rw [if_pos h] at h1 h2
  exact ⟨by rw [h1, Nat.pow_succ, Nat.add_mul, Nat.one_mul, Nat.mul_comm 2, Nat.mul_assoc, Nat.mul_comm 2], h2.symm⟩
theorem div_no {x y j : Nat} (hy : 0 < y) (h : ¬ y ≤ 2 * (x / 2 ^ (j + 1) % y) + x / 2 ^ j % 2) : x / 2 ^ (j + 1) / y * 2 ^ (j + 1) = x / 2 ^ j / y * 2 ^ j ∧ 2 * (x / 2 ^ (j + 1) % y) + x / 2 ^ j % 2 = x / 2 ^ j % y := by
  obtain ⟨h1, h2⟩ := div_step x y j hy
  rw [if_neg h] at h1 h2
  exact ⟨by rw [h1, Nat.pow_succ, Nat.add_zero, Nat.mul_comm 2, Nat.mul_assoc, Nat.mul_comm 2], h2.symm⟩
theorem high_bit {r : Nat} (hr : r < M256) : (nw r 3 >>> 63 = 1#64) ↔ 57896044618658097711785492504343953926634992332820282019728792003956564819968 ≤ r := by
  rw [← BitVec.toNat_inj, BitVec.toNat_ushiftRight, nw_toNat, Nat.shiftRight_eq_div_pow]
  have : (1#64).toNat = 1 := rfl
  rw [this]
  simp only [M256] at hr
  omega
theorem rest_word {r b : Nat} (X : BitVec 64) (hX : X.toNat = b) (hb : b < 2) (q : Nat) (_hq : q < 4) : nw (2 * r % M256 + b) q = if q = 0 then nw (2 * r % M256) 0 ||| X else nw (2 * r % M256) q := by
  rw [half_mod]; exact low_bit _ b hb X hX q
theorem quo_word {z j : Nat} (y k : Nat) (hz : z = k * 2 ^ (j + 1)) (q : Nat) (_hq : q < 4) : nw (z + 2 ^ j) q = if q = j / 64 then nw z (j / 64) ||| (1#64 <<< (j % 64)) else nw z q :=
  put_bit z j (by rw [hz, Nat.mul_mod_left]) q
theorem sub_back {s y r b : Nat} (hs : s = 2 * r % M256 + b) (hb : b < 2) (hr : r < y) (hy : y < M256) (h : y ≤ 2 * r + b) : (s + M256 - y) % M256 = 2 * r + b - y := by
  subst hs; simp only [M256] at *; omega

theorem wide_Div (x y : Nat) (hx : x < M256) (hy : y < M256) : Pure Tryz.prog 98 [vW x, vW y] (if y = 0 then .tuple #[vW 0, vW 0, vI 5] else .tuple #[vW (x / y), vW (x % y), vI 0]) := by
  intro w
  have hnb := nbits_le hx
  refine begin0 Tryz.func98 rfl Tryz.ntmps98 rfl ?_
  refine c_seq ?_
  refine c_region ?_
  refine seqq (o_box (T := 51) rfl (IsP.agg).cells rfl (fun b2 => ?_))
  refine seqq (o_box (T := 51) rfl (IsP.agg).cells rfl (fun b3 => ?_))
  refine seqq (o_alloc (ps := [P1 (bv .u64 0#64), P1 (bv .u64 0#64), P1 (bv .u64 0#64), P1 (bv .u64 0#64)]) Tryz.zeroValue51 (by kernel_rfl) rfl (fun b4 => ?_))
  refine seqq (o_alloc (ps := [P1 (bv .u64 0#64), P1 (bv .u64 0#64), P1 (bv .u64 0#64), P1 (bv .u64 0#64)]) Tryz.zeroValue51 (by kernel_rfl) rfl (fun b5 => ?_))
  refine seqq (o_y (y_assign rfl) rfl ?_)
  refine c_nil ?_
  refine c_seq ?_
  refine c_seq ?_
  refine c_region ?_
  refine seqq (o_y (lN Tryz.isAgg51 Tryz.sizeOf51 rfl (by rfl)) rfl ?_)
  refine seqq (o_y (y_buildA (zs := [P1 (bv .u64 0#64), P1 (bv .u64 0#64), P1 (bv .u64 0#64), P1 (bv .u64 0#64)]) Tryz.runUnderlying51 Tryz.sizeOf49 Tryz.zeroValue51 (by kernel_rfl) .nil (by rfl)) rfl ?_)
  refine j_re 12 rfl (congrArg vagg (zero_wide (m := 0) rfl)) ?_
  refine seqq (o_y (y_eqlA rfl rfl Tryz.eqGuardType51 (eqW (m := 0) hy (by decide))) rfl ?_)
  refine c_nil ?_
  refine c_if rfl (fun h13 => ?_) (fun h13 => ?_)
  ·
    refine c_seq ?_
    refine c_region ?_
    refine seqq (o_y (y_buildA (zs := [P1 (bv .u64 0#64), P1 (bv .u64 0#64), P1 (bv .u64 0#64), P1 (bv .u64 0#64)]) Tryz.runUnderlying51 Tryz.sizeOf49 Tryz.zeroValue51 (by kernel_rfl) .nil (by rfl)) rfl ?_)
    refine seqq (o_y (y_buildA (zs := [P1 (bv .u64 0#64), P1 (bv .u64 0#64), P1 (bv .u64 0#64), P1 (bv .u64 0#64)]) Tryz.runUnderlying51 Tryz.sizeOf49 Tryz.zeroValue51 (by kernel_rfl) .nil (by rfl)) rfl ?_)
    refine seqq (stN Tryz.sizeOf51 rfl rfl (by rfl) rfl (by rfl) ?_)
    refine seqq (stN Tryz.sizeOf51 rfl rfl (by rfl) rfl (by rfl) ?_)
    refine seqq (o_y (y_assign rfl) rfl ?_)
    refine c_nil ?_
    refine c_ret ?_
    refine c_done3 Tryz.results98 (rN Tryz.isAgg51 Tryz.sizeOf51 rfl (by rfl)) (rN Tryz.isAgg51 Tryz.sizeOf51 rfl (by rfl)) (.tmp rfl) (fun w hS => ?_)
    exact ⟨by rw [if_pos h13]; rfl, hS.none⟩
  ·
    have hy0 : 0 < y := by omega
    refine c_skip ?_
    refine c_seq ?_
    refine c_region ?_
    refine seqq (o_alloc (ps := [P1 (bv .u64 0#64), P1 (bv .u64 0#64), P1 (bv .u64 0#64), P1 (bv .u64 0#64)]) Tryz.zeroValue51 (by kernel_rfl) rfl (fun b7 => ?_))
    refine j_obj b7 (ps' := wideN (x / 2 ^ nbits x / y * 2 ^ nbits x)) (zero_wide (by rw [Nat.div_eq_of_lt (lt_nbits hx), Nat.zero_div, Nat.zero_mul])) (by rfl) ?_
    refine seqq (o_alloc (ps := [P1 (bv .u64 0#64), P1 (bv .u64 0#64), P1 (bv .u64 0#64), P1 (bv .u64 0#64)]) Tryz.zeroValue51 (by kernel_rfl) rfl (fun b8 => ?_))
    refine j_obj b8 (ps' := wideN (x / 2 ^ nbits x % y)) (zero_wide (by rw [Nat.div_eq_of_lt (lt_nbits hx), Nat.zero_mod])) (by rfl) ?_
    refine c_nil ?_
    refine c_seq ?_
    refine c_seq ?_
    refine c_region ?_
    refine seqq (o_y (lN Tryz.isAgg51 Tryz.sizeOf51 rfl (by rfl)) rfl ?_)
    refine seqq (o_pure Tryz.call88 rfl (wide_Bits x hx) rfl ?_)
    refine seqq (o_y (y_subI rfl rfl (by omega)) rfl ?_)
    refine seqq (o_y (y_assign rfl) rfl ?_)
    refine c_nil ?_
    refine c_block ?_
    refine c_while (X := Nat) [2, 3, 4, 5, 7, 8] [b2, b3, b4, b5] rfl (fun Ek k => (9, vI ((k : Int) - 1)) :: Ek) (fun Mk k => [(b7, obj 51 (wideN (x / 2 ^ k / y * 2 ^ k)))] :: [(b8, obj 51 (wideN (x / 2 ^ k % y)))] :: Mk) (fun k => k ≤ 256) (fun k => k) (nbits x) hnb ⟨rfl, rfl, rfl, rfl, rfl, rfl, rfl, trivial⟩ ?_
    intro k hk
    refine c_seq ?_
    refine c_seq ?_
    refine c_region ?_
    refine seqq (o_y (y_move rfl) rfl ?_)
    refine seqq (o_y (y_geqZ rfl rfl) rfl ?_)
    refine c_nil ?_
    refine c_if rfl (fun h20 => ?_) (fun h20 => ?_)
    ·
      obtain ⟨j, rfl⟩ : ∃ j, k = j + 1 := ⟨k - 1, by omega⟩
      refine j_re 9 rfl (show vI (((j + 1 : Nat) : Int) - 1) = vI (j : Int) from by congr 1 <;> omega) ?_
      have hr : x / 2 ^ (j + 1) % y < y := Nat.mod_lt _ hy0
      have hb2 : x / 2 ^ j % 2 < 2 := Nat.mod_lt _ (by omega)
      have hs : 2 * (x / 2 ^ (j + 1) % y) % M256 + x / 2 ^ j % 2 < M256 := by simp only [M256] at *; omega
      refine c_skip ?_
      refine c_seq ?_
      refine c_block ?_
      refine c_seq ?_
      refine c_region ?_
      refine seqq (o_y (y_indexAddrA Tryz.runUnderlying51 Tryz.sizeOf49 rfl rfl (by decide)) rfl ?_)
      refine seqq (o_y (l1 Tryz.isAgg49 rfl (by rfl)) rfl ?_)
      refine seqq (o_y (y_shrB (s := 63) UK.u64 rfl rfl) rfl ?_)
      refine seqq (o_y (y_eqlB (Y := 1#64) rfl rfl) rfl ?_)
      refine seqq (o_y (y_assign rfl) rfl ?_)
      refine c_nil ?_
      refine c_seq ?_
      refine c_region ?_
      refine seqq (o_y (lN Tryz.isAgg51 Tryz.sizeOf51 rfl (by rfl)) rfl ?_)
      refine seqq (o_pure Tryz.call89 rfl (wide_Left1 (x / 2 ^ (j + 1) % y) (by omega)) rfl ?_)
      refine seqq (stN Tryz.sizeOf51 rfl rfl (by rfl) rfl (by rfl) ?_)
      refine c_nil ?_
      refine c_seq ?_
      refine d_reg 12 mixed rfl ?_
      refine d_y (i := 0) (k' := 1) rfl (by kernel_rfl) (y_indexAddrA Tryz.runUnderlying51 Tryz.sizeOf49 rfl rfl (by decide)) rfl ?_
      refine d_s (i := 1) (k' := 3) rfl (by kernel_rfl) (by kernel_rfl) (l1 Tryz.isAgg49 rfl (by rfl)) hss rfl ?_
      refine d_y (i := 2) (k' := 7) rfl (by kernel_rfl) (y_move rfl) rfl ?_
      refine d_y (i := 3) (k' := 15) rfl (by kernel_rfl) (y_quoI rfl rfl (by omega)) rfl ?_
      refine d_y (i := 4) (k' := 31) rfl (by kernel_rfl) (y_indexAddrA Tryz.runUnderlying51 Tryz.sizeOf49 rfl rfl (by omega)) rfl ?_
      refine d_s (i := 5) (k' := 63) rfl (by kernel_rfl) (by kernel_rfl) (lW (j / 64) Tryz.isAgg49 rfl (by omega) (by omega)) hss rfl ?_
      refine d_y (i := 6) (k' := 127) rfl (by kernel_rfl) (y_move rfl) rfl ?_
      refine d_y (i := 7) (k' := 255) rfl (by kernel_rfl) (y_remI rfl rfl (by omega)) rfl ?_
      refine j_re 36 rfl (show vI ((j : Int) % 64) = vI ((j % 64 : Nat) : Int) from by congr 1) ?_
      refine d_y (i := 8) (k' := 511) rfl (by kernel_rfl) (y_shrB UK.u64 rfl rfl) rfl ?_
      refine d_y (i := 9) (k' := 1023) rfl (by kernel_rfl) (y_andB (Y := 1#64) UK.u64 rfl rfl) rfl ?_
      refine d_y (i := 10) (k' := 2047) rfl (by kernel_rfl) (y_orB UK.u64 rfl rfl) rfl ?_
      refine d_y (i := 11) (k' := 4095) rfl (by kernel_rfl) (y_indexAddrA Tryz.runUnderlying51 Tryz.sizeOf49 rfl rfl (by decide)) rfl ?_
      refine d_e (i := 12) (k' := 8191) rfl (by kernel_rfl) (stW 0 (2 * (x / 2 ^ (j + 1) % y) % M256 + x / 2 ^ j % 2) Tryz.sizeOf49 rfl rfl (by rfl) (by omega) (rest_word _ (bit_word x j (by omega)) hb2) (by rfl) ( d_past rfl ?_))
      refine d_end (by kernel_rfl) ?_
      refine c_seq ?_
      refine c_region ?_
      refine seqq (o_y (y_move rfl) rfl ?_)
      refine seqq (o_y (y_move rfl) rfl ?_)
      refine j_if 42 rfl (fun h42 => ?_) (fun h42 => ?_)
      ·
        have hyes : y ≤ 2 * (x / 2 ^ (j + 1) % y) + x / 2 ^ j % 2 := by rw [high_bit (by omega)] at h42; simp only [M256] at *; omega
        refine seqq (guard_false (c := true) rfl rfl rfl rfl ?_)
        refine seqq (guard_false (c := true) rfl rfl rfl rfl ?_)
        refine seqq (guard_false (c := true) rfl rfl rfl rfl ?_)
        refine seqq (guard_false (c := true) rfl rfl rfl rfl ?_)
        refine seqq (o_y (y_pick_t rfl rfl) rfl ?_)
        refine c_nil ?_
        refine c_condT rfl ?_
        refine c_seq ?_
        refine c_region ?_
        refine seqq (o_y (lN Tryz.isAgg51 Tryz.sizeOf51 rfl (by rfl)) rfl ?_)
        refine seqq (o_y (lN Tryz.isAgg51 Tryz.sizeOf51 rfl (by rfl)) rfl ?_)
        refine seqq (o_pure Tryz.call119 rfl (wide_Sub _ _ hs hy) rfl ?_)
        refine seqq (o_y (y_move rfl) rfl ?_)
        refine seqq (o_y (y_extract rfl rfl) rfl ?_)
        refine seqq (o_y (y_extract rfl rfl) rfl ?_)
        refine seqq (stN Tryz.sizeOf51 rfl rfl (by rfl) rfl (by rfl) ?_)
        refine c_nil ?_
        refine d_reg 9 mixed rfl ?_
        refine d_y (i := 0) (k' := 1) rfl (by kernel_rfl) (y_move rfl) rfl ?_
        refine d_y (i := 1) (k' := 3) rfl (by kernel_rfl) (y_quoI rfl rfl (by omega)) rfl ?_
        refine d_y (i := 2) (k' := 7) rfl (by kernel_rfl) (y_indexAddrA Tryz.runUnderlying51 Tryz.sizeOf49 rfl rfl (by omega)) rfl ?_
        refine d_s (i := 3) (k' := 15) rfl (by kernel_rfl) (by kernel_rfl) (lW (j / 64) Tryz.isAgg49 rfl (by omega) (by omega)) hss rfl ?_
        refine d_y (i := 4) (k' := 31) rfl (by kernel_rfl) (y_move rfl) rfl ?_
        refine d_y (i := 5) (k' := 63) rfl (by kernel_rfl) (y_remI rfl rfl (by omega)) rfl ?_
        refine j_re 59 rfl (show vI ((j : Int) % 64) = vI ((j % 64 : Nat) : Int) from by congr 1) ?_
        refine d_y (i := 6) (k' := 127) rfl (by kernel_rfl) (y_shlB (X := 1#64) UK.u64 rfl rfl) rfl ?_
        refine d_y (i := 7) (k' := 255) rfl (by kernel_rfl) (y_orB UK.u64 rfl rfl) rfl ?_
        refine d_y (i := 8) (k' := 511) rfl (by kernel_rfl) (y_indexAddrA Tryz.runUnderlying51 Tryz.sizeOf49 rfl rfl (by omega)) rfl ?_
        refine d_e (i := 9) (k' := 1023) rfl (by kernel_rfl) (stW (j / 64) (x / 2 ^ (j + 1) / y * 2 ^ (j + 1) + 2 ^ j) Tryz.sizeOf49 rfl rfl (by omega) (by omega) (quo_word y _ rfl) (by rfl) ( d_past rfl ?_))
        refine d_end (by kernel_rfl) ?_
        refine c_region ?_
        refine seqq (o_y (y_move rfl) rfl ?_)
        refine seqq (o_y (y_subI rfl rfl (by omega)) rfl ?_)
        refine seqq (o_y (y_assign rfl) rfl ?_)
        refine c_nil ?_
        refine j_obj b7 (ps' := wideN (x / 2 ^ j / y * 2 ^ j)) (by rw [(div_yes hy0 hyes).1]) (by rfl) ?_
        refine j_obj b8 (ps' := wideN (x / 2 ^ j % y)) (by rw [sub_back rfl hb2 hr hy hyes, (div_yes hy0 hyes).2]) (by rfl) ?_
        exact c_next j (by omega) (by omega) ⟨rfl, rfl, rfl, rfl, rfl, rfl, rfl, trivial⟩
      ·
        refine seqq (guard_true rfl rfl (o_y (lN Tryz.isAgg51 Tryz.sizeOf51 rfl (by rfl)) rfl ?_))
        refine seqq (guard_true rfl rfl (o_y (lN Tryz.isAgg51 Tryz.sizeOf51 rfl (by rfl)) rfl ?_))
        refine seqq (guard_true rfl rfl (o_pure Tryz.call17 rfl (wide_Cmp _ _ hs hy) rfl ?_))
        refine seqq (guard_true rfl rfl (o_y (y_geqZ rfl rfl) rfl ?_))
        refine seqq (o_y (y_pick_f rfl rfl) rfl ?_)
        refine c_nil ?_
        refine c_if rfl (fun h47 => ?_) (fun h47 => ?_)
        ·
          have hmod : 2 * (x / 2 ^ (j + 1) % y) % M256 = 2 * (x / 2 ^ (j + 1) % y) := by rw [high_bit (by omega)] at h42; simp only [M256] at *; omega
          have hyes : y ≤ 2 * (x / 2 ^ (j + 1) % y) + x / 2 ^ j % 2 := by rw [← hmod]; split at h47 <;> omega
          refine c_seq ?_
          refine c_region ?_
          refine seqq (o_y (lN Tryz.isAgg51 Tryz.sizeOf51 rfl (by rfl)) rfl ?_)
          refine seqq (o_y (lN Tryz.isAgg51 Tryz.sizeOf51 rfl (by rfl)) rfl ?_)
          refine seqq (o_pure Tryz.call119 rfl (wide_Sub _ _ hs hy) rfl ?_)
          refine seqq (o_y (y_move rfl) rfl ?_)
          refine seqq (o_y (y_extract rfl rfl) rfl ?_)
          refine seqq (o_y (y_extract rfl rfl) rfl ?_)
          refine seqq (stN Tryz.sizeOf51 rfl rfl (by rfl) rfl (by rfl) ?_)
          refine c_nil ?_
          refine d_reg 9 mixed rfl ?_
          refine d_y (i := 0) (k' := 1) rfl (by kernel_rfl) (y_move rfl) rfl ?_
          refine d_y (i := 1) (k' := 3) rfl (by kernel_rfl) (y_quoI rfl rfl (by omega)) rfl ?_
          refine d_y (i := 2) (k' := 7) rfl (by kernel_rfl) (y_indexAddrA Tryz.runUnderlying51 Tryz.sizeOf49 rfl rfl (by omega)) rfl ?_
          refine d_s (i := 3) (k' := 15) rfl (by kernel_rfl) (by kernel_rfl) (lW (j / 64) Tryz.isAgg49 rfl (by omega) (by omega)) hss rfl ?_
          refine d_y (i := 4) (k' := 31) rfl (by kernel_rfl) (y_move rfl) rfl ?_
          refine d_y (i := 5) (k' := 63) rfl (by kernel_rfl) (y_remI rfl rfl (by omega)) rfl ?_
          refine j_re 59 rfl (show vI ((j : Int) % 64) = vI ((j % 64 : Nat) : Int) from by congr 1) ?_
          refine d_y (i := 6) (k' := 127) rfl (by kernel_rfl) (y_shlB (X := 1#64) UK.u64 rfl rfl) rfl ?_
          refine d_y (i := 7) (k' := 255) rfl (by kernel_rfl) (y_orB UK.u64 rfl rfl) rfl ?_
          refine d_y (i := 8) (k' := 511) rfl (by kernel_rfl) (y_indexAddrA Tryz.runUnderlying51 Tryz.sizeOf49 rfl rfl (by omega)) rfl ?_
          refine d_e (i := 9) (k' := 1023) rfl (by kernel_rfl) (stW (j / 64) (x / 2 ^ (j + 1) / y * 2 ^ (j + 1) + 2 ^ j) Tryz.sizeOf49 rfl rfl (by omega) (by omega) (quo_word y _ rfl) (by rfl) ( d_past rfl ?_))
          refine d_end (by kernel_rfl) ?_
          refine c_region ?_
          refine seqq (o_y (y_move rfl) rfl ?_)
          refine seqq (o_y (y_subI rfl rfl (by omega)) rfl ?_)
          refine seqq (o_y (y_assign rfl) rfl ?_)
          refine c_nil ?_
          refine j_obj b7 (ps' := wideN (x / 2 ^ j / y * 2 ^ j)) (by rw [(div_yes hy0 hyes).1]) (by rfl) ?_
          refine j_obj b8 (ps' := wideN (x / 2 ^ j % y)) (by rw [sub_back rfl hb2 hr hy hyes, (div_yes hy0 hyes).2]) (by rfl) ?_
          exact c_next j (by omega) (by omega) ⟨rfl, rfl, rfl, rfl, rfl, rfl, rfl, trivial⟩
        ·
          have hmod : 2 * (x / 2 ^ (j + 1) % y) % M256 = 2 * (x / 2 ^ (j + 1) % y) := by rw [high_bit (by omega)] at h42; simp only [M256] at *; omega
          have hno : ¬ y ≤ 2 * (x / 2 ^ (j + 1) % y) + x / 2 ^ j % 2 := by rw [← hmod]; split at h47 <;> first | omega | (split at h47 <;> omega)
          refine c_skip ?_
          refine c_region ?_
          refine seqq (o_y (y_move rfl) rfl ?_)
          refine seqq (o_y (y_subI rfl rfl (by omega)) rfl ?_)
          refine seqq (o_y (y_assign rfl) rfl ?_)
          refine c_nil ?_
          refine j_obj b7 (ps' := wideN (x / 2 ^ j / y * 2 ^ j)) (by rw [(div_no hy0 hno).1]) (by rfl) ?_
          refine j_obj b8 (ps' := wideN (x / 2 ^ j % y)) (by rw [← (div_no hy0 hno).2, hmod]) (by rfl) ?_
          exact c_next j (by omega) (by omega) ⟨rfl, rfl, rfl, rfl, rfl, rfl, rfl, trivial⟩
    ·
      refine c_exit ?_
      refine c_seq ?_
      refine d_regK [b7, b8] 5 mixed rfl ?_
      refine d_s (i := 0) (k' := 1) rfl (by kernel_rfl) (by kernel_rfl) (lN Tryz.isAgg51 Tryz.sizeOf51 rfl (by rfl)) hss rfl ?_
      refine d_s (i := 1) (k' := 3) rfl (by kernel_rfl) (by kernel_rfl) (lN Tryz.isAgg51 Tryz.sizeOf51 rfl (by rfl)) hss rfl ?_
      refine d_e (i := 2) (k' := 7) rfl (by kernel_rfl) (stN Tryz.sizeOf51 rfl rfl (by rfl) rfl (by rfl) ( d_keep hss ?_))
      refine d_e (i := 3) (k' := 15) rfl (by kernel_rfl) (stN Tryz.sizeOf51 rfl rfl (by rfl) rfl (by rfl) ( d_keep hss ?_))
      refine d_y (i := 4) (k' := 31) rfl (by kernel_rfl) (y_assign rfl) rfl ?_
      refine d_end (by kernel_rfl) ?_
      refine c_ret ?_
      refine c_done3 Tryz.results98 (rN Tryz.isAgg51 Tryz.sizeOf51 rfl (by rfl)) (rN Tryz.isAgg51 Tryz.sizeOf51 rfl (by rfl)) (.tmp rfl) (fun w hS => ?_)
      exact ⟨by have hk0 : k = 0 := by omega
                subst hk0
                rw [if_neg h13, Nat.pow_zero, Nat.div_one, Nat.mul_one], hS.none⟩
