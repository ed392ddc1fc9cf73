/- Walks and laws of this claim, part Oct. -/
import Derived.Test.YtjoniieoaokimaaGreatVSum
set_option linter.unusedVariables false
set_option linter.unusedSimpArgs false
set_option linter.unusedSectionVars false
set_option autoImplicit true
set_option relaxedAutoImplicit true
set_option maxRecDepth 100000
set_option maxHeartbeats 1000000
namespace Go.Proofs
open V
/-! ### a writer -/
def putB (x : BitVec 64) : Nat → List (BitVec 8)
  | 0 => []
  | n + 1 => x.setWidth 8 :: putB (x >>> 8) n
theorem putB_len : ∀ (n : Nat) (x : BitVec 64), (putB x n).length = n
  | 0, _ => rfl
  | n + 1, x => by simp [putB, putB_len n]
/-- a writer at block bw, that has written bs into g -/
def wSeg (bw : Nat) (g : VG) (bs : List (BitVec 8)) : Seg := [(bw, obj 130 [P1 (g.val bs.length) (vg_one _ _)])]

theorem oct_Put1 (bw : Nat) (g : VG) (bs : List (BitVec 8)) (x : BitVec 64) (hg : g.ok 1 bs.length (By bs)) (hb : bs.length ≤ 1073741824) (Rd : List Seg) (w : World)
    (hSt : St w (dom [wSeg bw g bs, g.seg 5 (By bs)]) Rd [wSeg bw g bs, g.seg 5 (By bs)] w) :
    Calls Tryz.prog 64 [.pointer (some ⟨bw, 0, none⟩), bv .u64 x, vI 1].toArray w (Ret fun u w' => ∃ g' : VG, g'.ok 1 (bs ++ putB x 1).length (By (bs ++ putB x 1)) ∧ u = .tuple #[] ∧
      St w (dom [wSeg bw g bs, g.seg 5 (By bs)]) [] [wSeg bw g' (bs ++ putB x 1), g'.seg 5 (By (bs ++ putB x 1))] w') := by
  have hL : (bs ++ [(x).setWidth 8]) = bs ++ putB x 1 := by simp [putB]
  refine begin_ Tryz.func64 rfl Tryz.ntmps64 rfl hSt ?_
  change J _ _ _ _ ([(bw, obj 130 [P1 (g.val bs.length) (vg_one _ _)])] :: _) _
  refine c_seq ?_
  refine c_seq ?_
  refine c_region ?_
  refine seqq (o_y (y_move rfl) rfl ?_)
  refine seqq (o_y (y_eqlNilPk (v := false) Tryz.runUnderlying162 rfl rfl rfl) rfl ?_)
  refine c_nil ?_
  refine c_condF rfl ?_
  refine c_skip ?_
  refine c_seq ?_
  refine c_region ?_
  refine seqq (o_y (y_move rfl) rfl ?_)
  refine c_nil ?_
  refine c_block ?_
  refine c_seq ?_
  refine c_seq ?_
  refine c_region ?_
  refine seqq (o_y (y_binZ (v := .bool true) rfl rfl (fun _ => by rfl)) rfl ?_)
  refine seqq (o_y (y_assign rfl) rfl ?_)
  refine c_nil ?_
  refine c_condT rfl ?_
  refine c_skip ?_
  refine c_condT rfl ?_
  refine c_seq ?_
  refine c_region ?_
  refine seqq (o_y (y_move rfl) rfl ?_)
  refine seqq (o_y (y_move rfl) rfl ?_)
  refine c_nil ?_
  refine c_block ?_
  refine c_loop 2 ?_
  refine c_round ?_
  refine c_seq ?_
  refine c_region ?_
  refine seqq (o_y (y_binZ (v := .bool true) rfl rfl (fun _ => by rfl)) rfl ?_)
  refine c_nil ?_
  refine c_seq ?_
  refine c_condT rfl ?_
  refine c_skip ?_
  refine c_seq ?_
  refine c_block ?_
  refine c_seq ?_
  refine c_region ?_
  refine seqq (o_y (y_move rfl) rfl ?_)
  refine seqq (o_y (y_move rfl) rfl ?_)
  refine seqq (o_y (y_nilCheck rfl) rfl ?_)
  refine seqq (o_y (y_fieldAddr Tryz.runUnderlying130 rfl Tryz.sizeOf36 rfl rfl) rfl ?_)
  refine seqq (o_y (l1 Tryz.isAgg36 rfl (by rfl)) rfl ?_)
  refine seqq (o_y (y_move rfl) rfl ?_)
  refine seqq (o_y (y_convB UK.u8 Tryz.runUnderlying49 Tryz.runUnderlying5 rfl) rfl ?_)
  refine seqq (o_buildSlice (zs := [P1 (bv .u8 0#8)]) Tryz.runUnderlying36 Tryz.sizeOf5 Tryz.zeroValue5 (by kernel_rfl) rfl rfl (.one rfl rfl .nil) (by rfl) rfl (fun b24 => ?_))
  refine seqq (o_app1 (bs := bs) (x8 := (x).setWidth 8) g Tryz.runUnderlying36 Tryz.sizeOf5 Tryz.zeroValue5 (by kernel_rfl) Tryz.typeInfo5 rfl Tryz.runUnderlying36 rfl rfl rfl rfl hg (by rfl) (by omega) rfl (fun q0 hq0 => ?_))
  refine seqq (o_y (y_nilCheck rfl) rfl ?_)
  refine seqq (o_y (y_fieldAddr Tryz.runUnderlying130 rfl Tryz.sizeOf36 rfl rfl) rfl ?_)
  refine seqq (st1 (h1 := vg_one _ _) Tryz.sizeOf36 rfl rfl (by rfl) (by rfl) ?_)
  refine c_nil ?_
  refine c_region ?_
  refine seqq (o_y (y_move rfl) rfl ?_)
  refine seqq (o_y (y_shrB (s := 8) UK.u64 rfl rfl) rfl ?_)
  refine seqq (o_y (y_assign rfl) rfl ?_)
  refine c_nil ?_
  refine c_region ?_
  refine seqq (o_y (y_binZ (v := .int .i64 1) rfl rfl (fun _ => by rfl)) rfl ?_)
  refine seqq (o_y (y_move rfl) rfl ?_)
  refine c_nil ?_
  refine c_round ?_
  refine c_seq ?_
  refine c_region ?_
  refine seqq (o_y (y_binZ (v := .bool false) rfl rfl (fun _ => by rfl)) rfl ?_)
  refine c_nil ?_
  refine c_seq ?_
  refine c_condF rfl ?_
  refine c_exit ?_
  refine c_end ?_
  rw [hL] at hq0
  rw [hL]
  refine c_done0 Tryz.results64  (fun w hS => ?_)
  exact ⟨q0, hq0, rfl, hS.fin (N := [[(bw, obj 130 [P1 (q0.val (bs ++ putB x 1).length) (vg_one _ _)])], q0.seg 5 (By (bs ++ putB x 1))])⟩

theorem oct_Put2 (bw : Nat) (g : VG) (bs : List (BitVec 8)) (x : BitVec 64) (hg : g.ok 1 bs.length (By bs)) (hb : bs.length ≤ 1073741824) (Rd : List Seg) (w : World)
    (hSt : St w (dom [wSeg bw g bs, g.seg 5 (By bs)]) Rd [wSeg bw g bs, g.seg 5 (By bs)] w) :
    Calls Tryz.prog 64 [.pointer (some ⟨bw, 0, none⟩), bv .u64 x, vI 2].toArray w (Ret fun u w' => ∃ g' : VG, g'.ok 1 (bs ++ putB x 2).length (By (bs ++ putB x 2)) ∧ u = .tuple #[] ∧
      St w (dom [wSeg bw g bs, g.seg 5 (By bs)]) [] [wSeg bw g' (bs ++ putB x 2), g'.seg 5 (By (bs ++ putB x 2))] w') := by
  have hL : ((bs ++ [(x).setWidth 8]) ++ [((x >>> 8)).setWidth 8]) = bs ++ putB x 2 := by simp [putB]
  refine begin_ Tryz.func64 rfl Tryz.ntmps64 rfl hSt ?_
  change J _ _ _ _ ([(bw, obj 130 [P1 (g.val bs.length) (vg_one _ _)])] :: _) _
  refine c_seq ?_
  refine c_seq ?_
  refine c_region ?_
  refine seqq (o_y (y_move rfl) rfl ?_)
  refine seqq (o_y (y_eqlNilPk (v := false) Tryz.runUnderlying162 rfl rfl rfl) rfl ?_)
  refine c_nil ?_
  refine c_condF rfl ?_
  refine c_skip ?_
  refine c_seq ?_
  refine c_region ?_
  refine seqq (o_y (y_move rfl) rfl ?_)
  refine c_nil ?_
  refine c_block ?_
  refine c_seq ?_
  refine c_seq ?_
  refine c_region ?_
  refine seqq (o_y (y_binZ (v := .bool false) rfl rfl (fun _ => by rfl)) rfl ?_)
  refine seqq (o_y (y_assign rfl) rfl ?_)
  refine c_nil ?_
  refine c_condF rfl ?_
  refine c_seq ?_
  refine c_region ?_
  refine seqq (o_y (y_binZ (v := .bool true) rfl rfl (fun _ => by rfl)) rfl ?_)
  refine seqq (o_y (y_assign rfl) rfl ?_)
  refine c_nil ?_
  refine c_condT rfl ?_
  refine c_skip ?_
  refine c_condT rfl ?_
  refine c_seq ?_
  refine c_region ?_
  refine seqq (o_y (y_move rfl) rfl ?_)
  refine seqq (o_y (y_move rfl) rfl ?_)
  refine c_nil ?_
  refine c_block ?_
  refine c_loop 3 ?_
  refine c_round ?_
  refine c_seq ?_
  refine c_region ?_
  refine seqq (o_y (y_binZ (v := .bool true) rfl rfl (fun _ => by rfl)) rfl ?_)
  refine c_nil ?_
  refine c_seq ?_
  refine c_condT rfl ?_
  refine c_skip ?_
  refine c_seq ?_
  refine c_block ?_
  refine c_seq ?_
  refine c_region ?_
  refine seqq (o_y (y_move rfl) rfl ?_)
  refine seqq (o_y (y_move rfl) rfl ?_)
  refine seqq (o_y (y_nilCheck rfl) rfl ?_)
  refine seqq (o_y (y_fieldAddr Tryz.runUnderlying130 rfl Tryz.sizeOf36 rfl rfl) rfl ?_)
  refine seqq (o_y (l1 Tryz.isAgg36 rfl (by rfl)) rfl ?_)
  refine seqq (o_y (y_move rfl) rfl ?_)
  refine seqq (o_y (y_convB UK.u8 Tryz.runUnderlying49 Tryz.runUnderlying5 rfl) rfl ?_)
  refine seqq (o_buildSlice (zs := [P1 (bv .u8 0#8)]) Tryz.runUnderlying36 Tryz.sizeOf5 Tryz.zeroValue5 (by kernel_rfl) rfl rfl (.one rfl rfl .nil) (by rfl) rfl (fun b24 => ?_))
  refine seqq (o_app1 (bs := bs) (x8 := (x).setWidth 8) g Tryz.runUnderlying36 Tryz.sizeOf5 Tryz.zeroValue5 (by kernel_rfl) Tryz.typeInfo5 rfl Tryz.runUnderlying36 rfl rfl rfl rfl hg (by rfl) (by omega) rfl (fun q0 hq0 => ?_))
  refine seqq (o_y (y_nilCheck rfl) rfl ?_)
  refine seqq (o_y (y_fieldAddr Tryz.runUnderlying130 rfl Tryz.sizeOf36 rfl rfl) rfl ?_)
  refine seqq (st1 (h1 := vg_one _ _) Tryz.sizeOf36 rfl rfl (by rfl) (by rfl) ?_)
  refine c_nil ?_
  refine c_region ?_
  refine seqq (o_y (y_move rfl) rfl ?_)
  refine seqq (o_y (y_shrB (s := 8) UK.u64 rfl rfl) rfl ?_)
  refine seqq (o_y (y_assign rfl) rfl ?_)
  refine c_nil ?_
  refine c_region ?_
  refine seqq (o_y (y_binZ (v := .int .i64 1) rfl rfl (fun _ => by rfl)) rfl ?_)
  refine seqq (o_y (y_move rfl) rfl ?_)
  refine c_nil ?_
  refine c_round ?_
  refine c_seq ?_
  refine c_region ?_
  refine seqq (o_y (y_binZ (v := .bool true) rfl rfl (fun _ => by rfl)) rfl ?_)
  refine c_nil ?_
  refine c_seq ?_
  refine c_condT rfl ?_
  refine c_skip ?_
  refine c_seq ?_
  refine c_block ?_
  refine c_seq ?_
  refine c_region ?_
  refine seqq (o_y (y_move rfl) rfl ?_)
  refine seqq (o_y (y_move rfl) rfl ?_)
  refine seqq (o_y (y_nilCheck rfl) rfl ?_)
  refine seqq (o_y (y_fieldAddr Tryz.runUnderlying130 rfl Tryz.sizeOf36 rfl rfl) rfl ?_)
  refine seqq (o_y (l1 Tryz.isAgg36 rfl (by rfl)) rfl ?_)
  refine seqq (o_y (y_move rfl) rfl ?_)
  refine seqq (o_y (y_convB UK.u8 Tryz.runUnderlying49 Tryz.runUnderlying5 rfl) rfl ?_)
  refine seqq (o_buildSlice (zs := [P1 (bv .u8 0#8)]) Tryz.runUnderlying36 Tryz.sizeOf5 Tryz.zeroValue5 (by kernel_rfl) rfl rfl (.one rfl rfl .nil) (by rfl) rfl (fun b24 => ?_))
  refine seqq (o_app1 (bs := (bs ++ [(x).setWidth 8])) (x8 := ((x >>> 8)).setWidth 8) q0 Tryz.runUnderlying36 Tryz.sizeOf5 Tryz.zeroValue5 (by kernel_rfl) Tryz.typeInfo5 rfl Tryz.runUnderlying36 rfl rfl rfl rfl hq0 (by rfl) (by simp; omega) rfl (fun q1 hq1 => ?_))
  refine seqq (o_y (y_nilCheck rfl) rfl ?_)
  refine seqq (o_y (y_fieldAddr Tryz.runUnderlying130 rfl Tryz.sizeOf36 rfl rfl) rfl ?_)
  refine seqq (st1 (h1 := vg_one _ _) Tryz.sizeOf36 rfl rfl (by rfl) (by rfl) ?_)
  refine c_nil ?_
  refine c_region ?_
  refine seqq (o_y (y_move rfl) rfl ?_)
  refine seqq (o_y (y_shrB (s := 8) UK.u64 rfl rfl) rfl ?_)
  refine seqq (o_y (y_assign rfl) rfl ?_)
  refine c_nil ?_
  refine c_region ?_
  refine seqq (o_y (y_binZ (v := .int .i64 2) rfl rfl (fun _ => by rfl)) rfl ?_)
  refine seqq (o_y (y_move rfl) rfl ?_)
  refine c_nil ?_
  refine c_round ?_
  refine c_seq ?_
  refine c_region ?_
  refine seqq (o_y (y_binZ (v := .bool false) rfl rfl (fun _ => by rfl)) rfl ?_)
  refine c_nil ?_
  refine c_seq ?_
  refine c_condF rfl ?_
  refine c_exit ?_
  refine c_end ?_
  rw [hL] at hq1
  rw [hL]
  refine c_done0 Tryz.results64  (fun w hS => ?_)
  exact ⟨q1, hq1, rfl, hS.fin (N := [[(bw, obj 130 [P1 (q1.val (bs ++ putB x 2).length) (vg_one _ _)])], q1.seg 5 (By (bs ++ putB x 2))])⟩

theorem oct_Put4 (bw : Nat) (g : VG) (bs : List (BitVec 8)) (x : BitVec 64) (hg : g.ok 1 bs.length (By bs)) (hb : bs.length ≤ 1073741824) (Rd : List Seg) (w : World)
    (hSt : St w (dom [wSeg bw g bs, g.seg 5 (By bs)]) Rd [wSeg bw g bs, g.seg 5 (By bs)] w) :
    Calls Tryz.prog 64 [.pointer (some ⟨bw, 0, none⟩), bv .u64 x, vI 4].toArray w (Ret fun u w' => ∃ g' : VG, g'.ok 1 (bs ++ putB x 4).length (By (bs ++ putB x 4)) ∧ u = .tuple #[] ∧
      St w (dom [wSeg bw g bs, g.seg 5 (By bs)]) [] [wSeg bw g' (bs ++ putB x 4), g'.seg 5 (By (bs ++ putB x 4))] w') := by
  have hL : ((((bs ++ [(x).setWidth 8]) ++ [((x >>> 8)).setWidth 8]) ++ [(((x >>> 8) >>> 8)).setWidth 8]) ++ [((((x >>> 8) >>> 8) >>> 8)).setWidth 8]) = bs ++ putB x 4 := by simp [putB]
  refine begin_ Tryz.func64 rfl Tryz.ntmps64 rfl hSt ?_
  change J _ _ _ _ ([(bw, obj 130 [P1 (g.val bs.length) (vg_one _ _)])] :: _) _
  refine c_seq ?_
  refine c_seq ?_
  refine c_region ?_
  refine seqq (o_y (y_move rfl) rfl ?_)
  refine seqq (o_y (y_eqlNilPk (v := false) Tryz.runUnderlying162 rfl rfl rfl) rfl ?_)
  refine c_nil ?_
  refine c_condF rfl ?_
  refine c_skip ?_
  refine c_seq ?_
  refine c_region ?_
  refine seqq (o_y (y_move rfl) rfl ?_)
  refine c_nil ?_
  refine c_block ?_
  refine c_seq ?_
  refine c_seq ?_
  refine c_region ?_
  refine seqq (o_y (y_binZ (v := .bool false) rfl rfl (fun _ => by rfl)) rfl ?_)
  refine seqq (o_y (y_assign rfl) rfl ?_)
  refine c_nil ?_
  refine c_condF rfl ?_
  refine c_seq ?_
  refine c_region ?_
  refine seqq (o_y (y_binZ (v := .bool false) rfl rfl (fun _ => by rfl)) rfl ?_)
  refine seqq (o_y (y_assign rfl) rfl ?_)
  refine c_nil ?_
  refine c_condF rfl ?_
  refine c_seq ?_
  refine c_region ?_
  refine seqq (o_y (y_binZ (v := .bool true) rfl rfl (fun _ => by rfl)) rfl ?_)
  refine seqq (o_y (y_assign rfl) rfl ?_)
  refine c_nil ?_
  refine c_condT rfl ?_
  refine c_skip ?_
  refine c_condT rfl ?_
  refine c_seq ?_
  refine c_region ?_
  refine seqq (o_y (y_move rfl) rfl ?_)
  refine seqq (o_y (y_move rfl) rfl ?_)
  refine c_nil ?_
  refine c_block ?_
  refine c_loop 5 ?_
  refine c_round ?_
  refine c_seq ?_
  refine c_region ?_
  refine seqq (o_y (y_binZ (v := .bool true) rfl rfl (fun _ => by rfl)) rfl ?_)
  refine c_nil ?_
  refine c_seq ?_
  refine c_condT rfl ?_
  refine c_skip ?_
  refine c_seq ?_
  refine c_block ?_
  refine c_seq ?_
  refine c_region ?_
  refine seqq (o_y (y_move rfl) rfl ?_)
  refine seqq (o_y (y_move rfl) rfl ?_)
  refine seqq (o_y (y_nilCheck rfl) rfl ?_)
  refine seqq (o_y (y_fieldAddr Tryz.runUnderlying130 rfl Tryz.sizeOf36 rfl rfl) rfl ?_)
  refine seqq (o_y (l1 Tryz.isAgg36 rfl (by rfl)) rfl ?_)
  refine seqq (o_y (y_move rfl) rfl ?_)
  refine seqq (o_y (y_convB UK.u8 Tryz.runUnderlying49 Tryz.runUnderlying5 rfl) rfl ?_)
  refine seqq (o_buildSlice (zs := [P1 (bv .u8 0#8)]) Tryz.runUnderlying36 Tryz.sizeOf5 Tryz.zeroValue5 (by kernel_rfl) rfl rfl (.one rfl rfl .nil) (by rfl) rfl (fun b24 => ?_))
  refine seqq (o_app1 (bs := bs) (x8 := (x).setWidth 8) g Tryz.runUnderlying36 Tryz.sizeOf5 Tryz.zeroValue5 (by kernel_rfl) Tryz.typeInfo5 rfl Tryz.runUnderlying36 rfl rfl rfl rfl hg (by rfl) (by omega) rfl (fun q0 hq0 => ?_))
  refine seqq (o_y (y_nilCheck rfl) rfl ?_)
  refine seqq (o_y (y_fieldAddr Tryz.runUnderlying130 rfl Tryz.sizeOf36 rfl rfl) rfl ?_)
  refine seqq (st1 (h1 := vg_one _ _) Tryz.sizeOf36 rfl rfl (by rfl) (by rfl) ?_)
  refine c_nil ?_
  refine c_region ?_
  refine seqq (o_y (y_move rfl) rfl ?_)
  refine seqq (o_y (y_shrB (s := 8) UK.u64 rfl rfl) rfl ?_)
  refine seqq (o_y (y_assign rfl) rfl ?_)
  refine c_nil ?_
  refine c_region ?_
  refine seqq (o_y (y_binZ (v := .int .i64 1) rfl rfl (fun _ => by rfl)) rfl ?_)
  refine seqq (o_y (y_move rfl) rfl ?_)
  refine c_nil ?_
  refine c_round ?_
  refine c_seq ?_
  refine c_region ?_
  refine seqq (o_y (y_binZ (v := .bool true) rfl rfl (fun _ => by rfl)) rfl ?_)
  refine c_nil ?_
  refine c_seq ?_
  refine c_condT rfl ?_
  refine c_skip ?_
  refine c_seq ?_
  refine c_block ?_
  refine c_seq ?_
  refine c_region ?_
  refine seqq (o_y (y_move rfl) rfl ?_)
  refine seqq (o_y (y_move rfl) rfl ?_)
  refine seqq (o_y (y_nilCheck rfl) rfl ?_)
  refine seqq (o_y (y_fieldAddr Tryz.runUnderlying130 rfl Tryz.sizeOf36 rfl rfl) rfl ?_)
  refine seqq (o_y (l1 Tryz.isAgg36 rfl (by rfl)) rfl ?_)
  refine seqq (o_y (y_move rfl) rfl ?_)
  refine seqq (o_y (y_convB UK.u8 Tryz.runUnderlying49 Tryz.runUnderlying5 rfl) rfl ?_)
  refine seqq (o_buildSlice (zs := [P1 (bv .u8 0#8)]) Tryz.runUnderlying36 Tryz.sizeOf5 Tryz.zeroValue5 (by kernel_rfl) rfl rfl (.one rfl rfl .nil) (by rfl) rfl (fun b24 => ?_))
  refine seqq (o_app1 (bs := (bs ++ [(x).setWidth 8])) (x8 := ((x >>> 8)).setWidth 8) q0 Tryz.runUnderlying36 Tryz.sizeOf5 Tryz.zeroValue5 (by kernel_rfl) Tryz.typeInfo5 rfl Tryz.runUnderlying36 rfl rfl rfl rfl hq0 (by rfl) (by simp; omega) rfl (fun q1 hq1 => ?_))
  refine seqq (o_y (y_nilCheck rfl) rfl ?_)
  refine seqq (o_y (y_fieldAddr Tryz.runUnderlying130 rfl Tryz.sizeOf36 rfl rfl) rfl ?_)
  refine seqq (st1 (h1 := vg_one _ _) Tryz.sizeOf36 rfl rfl (by rfl) (by rfl) ?_)
  refine c_nil ?_
  refine c_region ?_
  refine seqq (o_y (y_move rfl) rfl ?_)
  refine seqq (o_y (y_shrB (s := 8) UK.u64 rfl rfl) rfl ?_)
  refine seqq (o_y (y_assign rfl) rfl ?_)
  refine c_nil ?_
  refine c_region ?_
  refine seqq (o_y (y_binZ (v := .int .i64 2) rfl rfl (fun _ => by rfl)) rfl ?_)
  refine seqq (o_y (y_move rfl) rfl ?_)
  refine c_nil ?_
  refine c_round ?_
  refine c_seq ?_
  refine c_region ?_
  refine seqq (o_y (y_binZ (v := .bool true) rfl rfl (fun _ => by rfl)) rfl ?_)
  refine c_nil ?_
  refine c_seq ?_
  refine c_condT rfl ?_
  refine c_skip ?_
  refine c_seq ?_
  refine c_block ?_
  refine c_seq ?_
  refine c_region ?_
  refine seqq (o_y (y_move rfl) rfl ?_)
  refine seqq (o_y (y_move rfl) rfl ?_)
  refine seqq (o_y (y_nilCheck rfl) rfl ?_)
  refine seqq (o_y (y_fieldAddr Tryz.runUnderlying130 rfl Tryz.sizeOf36 rfl rfl) rfl ?_)
  refine seqq (o_y (l1 Tryz.isAgg36 rfl (by rfl)) rfl ?_)
  refine seqq (o_y (y_move rfl) rfl ?_)
  refine seqq (o_y (y_convB UK.u8 Tryz.runUnderlying49 Tryz.runUnderlying5 rfl) rfl ?_)
  refine seqq (o_buildSlice (zs := [P1 (bv .u8 0#8)]) Tryz.runUnderlying36 Tryz.sizeOf5 Tryz.zeroValue5 (by kernel_rfl) rfl rfl (.one rfl rfl .nil) (by rfl) rfl (fun b24 => ?_))
  refine seqq (o_app1 (bs := ((bs ++ [(x).setWidth 8]) ++ [((x >>> 8)).setWidth 8])) (x8 := (((x >>> 8) >>> 8)).setWidth 8) q1 Tryz.runUnderlying36 Tryz.sizeOf5 Tryz.zeroValue5 (by kernel_rfl) Tryz.typeInfo5 rfl Tryz.runUnderlying36 rfl rfl rfl rfl hq1 (by rfl) (by simp; omega) rfl (fun q2 hq2 => ?_))
  refine seqq (o_y (y_nilCheck rfl) rfl ?_)
  refine seqq (o_y (y_fieldAddr Tryz.runUnderlying130 rfl Tryz.sizeOf36 rfl rfl) rfl ?_)
  refine seqq (st1 (h1 := vg_one _ _) Tryz.sizeOf36 rfl rfl (by rfl) (by rfl) ?_)
  refine c_nil ?_
  refine c_region ?_
  refine seqq (o_y (y_move rfl) rfl ?_)
  refine seqq (o_y (y_shrB (s := 8) UK.u64 rfl rfl) rfl ?_)
  refine seqq (o_y (y_assign rfl) rfl ?_)
  refine c_nil ?_
  refine c_region ?_
  refine seqq (o_y (y_binZ (v := .int .i64 3) rfl rfl (fun _ => by rfl)) rfl ?_)
  refine seqq (o_y (y_move rfl) rfl ?_)
  refine c_nil ?_
  refine c_round ?_
  refine c_seq ?_
  refine c_region ?_
  refine seqq (o_y (y_binZ (v := .bool true) rfl rfl (fun _ => by rfl)) rfl ?_)
  refine c_nil ?_
  refine c_seq ?_
  refine c_condT rfl ?_
  refine c_skip ?_
  refine c_seq ?_
  refine c_block ?_
  refine c_seq ?_
  refine c_region ?_
  refine seqq (o_y (y_move rfl) rfl ?_)
  refine seqq (o_y (y_move rfl) rfl ?_)
  refine seqq (o_y (y_nilCheck rfl) rfl ?_)
  refine seqq (o_y (y_fieldAddr Tryz.runUnderlying130 rfl Tryz.sizeOf36 rfl rfl) rfl ?_)
  refine seqq (o_y (l1 Tryz.isAgg36 rfl (by rfl)) rfl ?_)
  refine seqq (o_y (y_move rfl) rfl ?_)
  refine seqq (o_y (y_convB UK.u8 Tryz.runUnderlying49 Tryz.runUnderlying5 rfl) rfl ?_)
  refine seqq (o_buildSlice (zs := [P1 (bv .u8 0#8)]) Tryz.runUnderlying36 Tryz.sizeOf5 Tryz.zeroValue5 (by kernel_rfl) rfl rfl (.one rfl rfl .nil) (by rfl) rfl (fun b24 => ?_))
  refine seqq (o_app1 (bs := (((bs ++ [(x).setWidth 8]) ++ [((x >>> 8)).setWidth 8]) ++ [(((x >>> 8) >>> 8)).setWidth 8])) (x8 := ((((x >>> 8) >>> 8) >>> 8)).setWidth 8) q2 Tryz.runUnderlying36 Tryz.sizeOf5 Tryz.zeroValue5 (by kernel_rfl) Tryz.typeInfo5 rfl Tryz.runUnderlying36 rfl rfl rfl rfl hq2 (by rfl) (by simp; omega) rfl (fun q3 hq3 => ?_))
  refine seqq (o_y (y_nilCheck rfl) rfl ?_)
  refine seqq (o_y (y_fieldAddr Tryz.runUnderlying130 rfl Tryz.sizeOf36 rfl rfl) rfl ?_)
  refine seqq (st1 (h1 := vg_one _ _) Tryz.sizeOf36 rfl rfl (by rfl) (by rfl) ?_)
  refine c_nil ?_
  refine c_region ?_
  refine seqq (o_y (y_move rfl) rfl ?_)
  refine seqq (o_y (y_shrB (s := 8) UK.u64 rfl rfl) rfl ?_)
  refine seqq (o_y (y_assign rfl) rfl ?_)
  refine c_nil ?_
  refine c_region ?_
  refine seqq (o_y (y_binZ (v := .int .i64 4) rfl rfl (fun _ => by rfl)) rfl ?_)
  refine seqq (o_y (y_move rfl) rfl ?_)
  refine c_nil ?_
  refine c_round ?_
  refine c_seq ?_
  refine c_region ?_
  refine seqq (o_y (y_binZ (v := .bool false) rfl rfl (fun _ => by rfl)) rfl ?_)
  refine c_nil ?_
  refine c_seq ?_
  refine c_condF rfl ?_
  refine c_exit ?_
  refine c_end ?_
  rw [hL] at hq3
  rw [hL]
  refine c_done0 Tryz.results64  (fun w hS => ?_)
  exact ⟨q3, hq3, rfl, hS.fin (N := [[(bw, obj 130 [P1 (q3.val (bs ++ putB x 4).length) (vg_one _ _)])], q3.seg 5 (By (bs ++ putB x 4))])⟩

theorem oct_Put8 (bw : Nat) (g : VG) (bs : List (BitVec 8)) (x : BitVec 64) (hg : g.ok 1 bs.length (By bs)) (hb : bs.length ≤ 1073741824) (Rd : List Seg) (w : World)
    (hSt : St w (dom [wSeg bw g bs, g.seg 5 (By bs)]) Rd [wSeg bw g bs, g.seg 5 (By bs)] w) :
    Calls Tryz.prog 64 [.pointer (some ⟨bw, 0, none⟩), bv .u64 x, vI 8].toArray w (Ret fun u w' => ∃ g' : VG, g'.ok 1 (bs ++ putB x 8).length (By (bs ++ putB x 8)) ∧ u = .tuple #[] ∧
      St w (dom [wSeg bw g bs, g.seg 5 (By bs)]) [] [wSeg bw g' (bs ++ putB x 8), g'.seg 5 (By (bs ++ putB x 8))] w') := by
  have hL : ((((((((bs ++ [(x).setWidth 8]) ++ [((x >>> 8)).setWidth 8]) ++ [(((x >>> 8) >>> 8)).setWidth 8]) ++ [((((x >>> 8) >>> 8) >>> 8)).setWidth 8]) ++ [(((((x >>> 8) >>> 8) >>> 8) >>> 8)).setWidth 8]) ++ [((((((x >>> 8) >>> 8) >>> 8) >>> 8) >>> 8)).setWidth 8]) ++ [(((((((x >>> 8) >>> 8) >>> 8) >>> 8) >>> 8) >>> 8)).setWidth 8]) ++ [((((((((x >>> 8) >>> 8) >>> 8) >>> 8) >>> 8) >>> 8) >>> 8)).setWidth 8]) = bs ++ putB x 8 := by simp [putB]
  refine begin_ Tryz.func64 rfl Tryz.ntmps64 rfl hSt ?_
  change J _ _ _ _ ([(bw, obj 130 [P1 (g.val bs.length) (vg_one _ _)])] :: _) _
  refine c_seq ?_
  refine c_seq ?_
  refine c_region ?_
  refine seqq (o_y (y_move rfl) rfl ?_)
  refine seqq (o_y (y_eqlNilPk (v := false) Tryz.runUnderlying162 rfl rfl rfl) rfl ?_)
  refine c_nil ?_
  refine c_condF rfl ?_
  refine c_skip ?_
  refine c_seq ?_
  refine c_region ?_
  refine seqq (o_y (y_move rfl) rfl ?_)
  refine c_nil ?_
  refine c_block ?_
  refine c_seq ?_
  refine c_seq ?_
  refine c_region ?_
  refine seqq (o_y (y_binZ (v := .bool false) rfl rfl (fun _ => by rfl)) rfl ?_)
  refine seqq (o_y (y_assign rfl) rfl ?_)
  refine c_nil ?_
  refine c_condF rfl ?_
  refine c_seq ?_
  refine c_region ?_
  refine seqq (o_y (y_binZ (v := .bool false) rfl rfl (fun _ => by rfl)) rfl ?_)
  refine seqq (o_y (y_assign rfl) rfl ?_)
  refine c_nil ?_
  refine c_condF rfl ?_
  refine c_seq ?_
  refine c_region ?_
  refine seqq (o_y (y_binZ (v := .bool false) rfl rfl (fun _ => by rfl)) rfl ?_)
  refine seqq (o_y (y_assign rfl) rfl ?_)
  refine c_nil ?_
  refine c_condF rfl ?_
  refine c_region ?_
  refine seqq (o_y (y_binZ (v := .bool true) rfl rfl (fun _ => by rfl)) rfl ?_)
  refine seqq (o_y (y_assign rfl) rfl ?_)
  refine c_nil ?_
  refine c_condT rfl ?_
  refine c_seq ?_
  refine c_region ?_
  refine seqq (o_y (y_move rfl) rfl ?_)
  refine seqq (o_y (y_move rfl) rfl ?_)
  refine c_nil ?_
  refine c_block ?_
  refine c_loop 9 ?_
  refine c_round ?_
  refine c_seq ?_
  refine c_region ?_
  refine seqq (o_y (y_binZ (v := .bool true) rfl rfl (fun _ => by rfl)) rfl ?_)
  refine c_nil ?_
  refine c_seq ?_
  refine c_condT rfl ?_
  refine c_skip ?_
  refine c_seq ?_
  refine c_block ?_
  refine c_seq ?_
  refine c_region ?_
  refine seqq (o_y (y_move rfl) rfl ?_)
  refine seqq (o_y (y_move rfl) rfl ?_)
  refine seqq (o_y (y_nilCheck rfl) rfl ?_)
  refine seqq (o_y (y_fieldAddr Tryz.runUnderlying130 rfl Tryz.sizeOf36 rfl rfl) rfl ?_)
  refine seqq (o_y (l1 Tryz.isAgg36 rfl (by rfl)) rfl ?_)
  refine seqq (o_y (y_move rfl) rfl ?_)
  refine seqq (o_y (y_convB UK.u8 Tryz.runUnderlying49 Tryz.runUnderlying5 rfl) rfl ?_)
  refine seqq (o_buildSlice (zs := [P1 (bv .u8 0#8)]) Tryz.runUnderlying36 Tryz.sizeOf5 Tryz.zeroValue5 (by kernel_rfl) rfl rfl (.one rfl rfl .nil) (by rfl) rfl (fun b24 => ?_))
  refine seqq (o_app1 (bs := bs) (x8 := (x).setWidth 8) g Tryz.runUnderlying36 Tryz.sizeOf5 Tryz.zeroValue5 (by kernel_rfl) Tryz.typeInfo5 rfl Tryz.runUnderlying36 rfl rfl rfl rfl hg (by rfl) (by omega) rfl (fun q0 hq0 => ?_))
  refine seqq (o_y (y_nilCheck rfl) rfl ?_)
  refine seqq (o_y (y_fieldAddr Tryz.runUnderlying130 rfl Tryz.sizeOf36 rfl rfl) rfl ?_)
  refine seqq (st1 (h1 := vg_one _ _) Tryz.sizeOf36 rfl rfl (by rfl) (by rfl) ?_)
  refine c_nil ?_
  refine c_region ?_
  refine seqq (o_y (y_move rfl) rfl ?_)
  refine seqq (o_y (y_shrB (s := 8) UK.u64 rfl rfl) rfl ?_)
  refine seqq (o_y (y_assign rfl) rfl ?_)
  refine c_nil ?_
  refine c_region ?_
  refine seqq (o_y (y_binZ (v := .int .i64 1) rfl rfl (fun _ => by rfl)) rfl ?_)
  refine seqq (o_y (y_move rfl) rfl ?_)
  refine c_nil ?_
  refine c_round ?_
  refine c_seq ?_
  refine c_region ?_
  refine seqq (o_y (y_binZ (v := .bool true) rfl rfl (fun _ => by rfl)) rfl ?_)
  refine c_nil ?_
  refine c_seq ?_
  refine c_condT rfl ?_
  refine c_skip ?_
  refine c_seq ?_
  refine c_block ?_
  refine c_seq ?_
  refine c_region ?_
  refine seqq (o_y (y_move rfl) rfl ?_)
  refine seqq (o_y (y_move rfl) rfl ?_)
  refine seqq (o_y (y_nilCheck rfl) rfl ?_)
  refine seqq (o_y (y_fieldAddr Tryz.runUnderlying130 rfl Tryz.sizeOf36 rfl rfl) rfl ?_)
  refine seqq (o_y (l1 Tryz.isAgg36 rfl (by rfl)) rfl ?_)
  refine seqq (o_y (y_move rfl) rfl ?_)
  refine seqq (o_y (y_convB UK.u8 Tryz.runUnderlying49 Tryz.runUnderlying5 rfl) rfl ?_)
  refine seqq (o_buildSlice (zs := [P1 (bv .u8 0#8)]) Tryz.runUnderlying36 Tryz.sizeOf5 Tryz.zeroValue5 (by kernel_rfl) rfl rfl (.one rfl rfl .nil) (by rfl) rfl (fun b24 => ?_))
  refine seqq (o_app1 (bs := (bs ++ [(x).setWidth 8])) (x8 := ((x >>> 8)).setWidth 8) q0 Tryz.runUnderlying36 Tryz.sizeOf5 Tryz.zeroValue5 (by kernel_rfl) Tryz.typeInfo5 rfl Tryz.runUnderlying36 rfl rfl rfl rfl hq0 (by rfl) (by simp; omega) rfl (fun q1 hq1 => ?_))
  refine seqq (o_y (y_nilCheck rfl) rfl ?_)
  refine seqq (o_y (y_fieldAddr Tryz.runUnderlying130 rfl Tryz.sizeOf36 rfl rfl) rfl ?_)
  refine seqq (st1 (h1 := vg_one _ _) Tryz.sizeOf36 rfl rfl (by rfl) (by rfl) ?_)
  refine c_nil ?_
  refine c_region ?_
  refine seqq (o_y (y_move rfl) rfl ?_)
  refine seqq (o_y (y_shrB (s := 8) UK.u64 rfl rfl) rfl ?_)
  refine seqq (o_y (y_assign rfl) rfl ?_)
  refine c_nil ?_
  refine c_region ?_
  refine seqq (o_y (y_binZ (v := .int .i64 2) rfl rfl (fun _ => by rfl)) rfl ?_)
  refine seqq (o_y (y_move rfl) rfl ?_)
  refine c_nil ?_
  refine c_round ?_
  refine c_seq ?_
  refine c_region ?_
  refine seqq (o_y (y_binZ (v := .bool true) rfl rfl (fun _ => by rfl)) rfl ?_)
  refine c_nil ?_
  refine c_seq ?_
  refine c_condT rfl ?_
  refine c_skip ?_
  refine c_seq ?_
  refine c_block ?_
  refine c_seq ?_
  refine c_region ?_
  refine seqq (o_y (y_move rfl) rfl ?_)
  refine seqq (o_y (y_move rfl) rfl ?_)
  refine seqq (o_y (y_nilCheck rfl) rfl ?_)
  refine seqq (o_y (y_fieldAddr Tryz.runUnderlying130 rfl Tryz.sizeOf36 rfl rfl) rfl ?_)
  refine seqq (o_y (l1 Tryz.isAgg36 rfl (by rfl)) rfl ?_)
  refine seqq (o_y (y_move rfl) rfl ?_)
  refine seqq (o_y (y_convB UK.u8 Tryz.runUnderlying49 Tryz.runUnderlying5 rfl) rfl ?_)
  refine seqq (o_buildSlice (zs := [P1 (bv .u8 0#8)]) Tryz.runUnderlying36 Tryz.sizeOf5 Tryz.zeroValue5 (by kernel_rfl) rfl rfl (.one rfl rfl .nil) (by rfl) rfl (fun b24 => ?_))
  refine seqq (o_app1 (bs := ((bs ++ [(x).setWidth 8]) ++ [((x >>> 8)).setWidth 8])) (x8 := (((x >>> 8) >>> 8)).setWidth 8) q1 Tryz.runUnderlying36 Tryz.sizeOf5 Tryz.zeroValue5 (by kernel_rfl) Tryz.typeInfo5 rfl Tryz.runUnderlying36 rfl rfl rfl rfl hq1 (by rfl) (by simp; omega) rfl (fun q2 hq2 => ?_))
  refine seqq (o_y (y_nilCheck rfl) rfl ?_)
  refine seqq (o_y (y_fieldAddr Tryz.runUnderlying130 rfl Tryz.sizeOf36 rfl rfl) rfl ?_)
  refine seqq (st1 (h1 := vg_one _ _) Tryz.sizeOf36 rfl rfl (by rfl) (by rfl) ?_)
  refine c_nil ?_
  refine c_region ?_
  refine seqq (o_y (y_move rfl) rfl ?_)
  refine seqq (o_y (y_shrB (s := 8) UK.u64 rfl rfl) rfl ?_)
  refine seqq (o_y (y_assign rfl) rfl ?_)
  refine c_nil ?_
  refine c_region ?_
  refine seqq (o_y (y_binZ (v := .int .i64 3) rfl rfl (fun _ => by rfl)) rfl ?_)
  refine seqq (o_y (y_move rfl) rfl ?_)
  refine c_nil ?_
  refine c_round ?_
  refine c_seq ?_
  refine c_region ?_
  refine seqq (o_y (y_binZ (v := .bool true) rfl rfl (fun _ => by rfl)) rfl ?_)
  refine c_nil ?_
  refine c_seq ?_
  refine c_condT rfl ?_
  refine c_skip ?_
  refine c_seq ?_
  refine c_block ?_
  refine c_seq ?_
  refine c_region ?_
  refine seqq (o_y (y_move rfl) rfl ?_)
  refine seqq (o_y (y_move rfl) rfl ?_)
  refine seqq (o_y (y_nilCheck rfl) rfl ?_)
  refine seqq (o_y (y_fieldAddr Tryz.runUnderlying130 rfl Tryz.sizeOf36 rfl rfl) rfl ?_)
  refine seqq (o_y (l1 Tryz.isAgg36 rfl (by rfl)) rfl ?_)
  refine seqq (o_y (y_move rfl) rfl ?_)
  refine seqq (o_y (y_convB UK.u8 Tryz.runUnderlying49 Tryz.runUnderlying5 rfl) rfl ?_)
  refine seqq (o_buildSlice (zs := [P1 (bv .u8 0#8)]) Tryz.runUnderlying36 Tryz.sizeOf5 Tryz.zeroValue5 (by kernel_rfl) rfl rfl (.one rfl rfl .nil) (by rfl) rfl (fun b24 => ?_))
  refine seqq (o_app1 (bs := (((bs ++ [(x).setWidth 8]) ++ [((x >>> 8)).setWidth 8]) ++ [(((x >>> 8) >>> 8)).setWidth 8])) (x8 := ((((x >>> 8) >>> 8) >>> 8)).setWidth 8) q2 Tryz.runUnderlying36 Tryz.sizeOf5 Tryz.zeroValue5 (by kernel_rfl) Tryz.typeInfo5 rfl Tryz.runUnderlying36 rfl rfl rfl rfl hq2 (by rfl) (by simp; omega) rfl (fun q3 hq3 => ?_))
  refine seqq (o_y (y_nilCheck rfl) rfl ?_)
  refine seqq (o_y (y_fieldAddr Tryz.runUnderlying130 rfl Tryz.sizeOf36 rfl rfl) rfl ?_)
  refine seqq (st1 (h1 := vg_one _ _) Tryz.sizeOf36 rfl rfl (by rfl) (by rfl) ?_)
  refine c_nil ?_
  refine c_region ?_
  refine seqq (o_y (y_move rfl) rfl ?_)
  refine seqq (o_y (y_shrB (s := 8) UK.u64 rfl rfl) rfl ?_)
  refine seqq (o_y (y_assign rfl) rfl ?_)
  refine c_nil ?_
  refine c_region ?_
  refine seqq (o_y (y_binZ (v := .int .i64 4) rfl rfl (fun _ => by rfl)) rfl ?_)
  refine seqq (o_y (y_move rfl) rfl ?_)
  refine c_nil ?_
  refine c_round ?_
  refine c_seq ?_
  refine c_region ?_
  refine seqq (o_y (y_binZ (v := .bool true) rfl rfl (fun _ => by rfl)) rfl ?_)
  refine c_nil ?_
  refine c_seq ?_
  refine c_condT rfl ?_
  refine c_skip ?_
  refine c_seq ?_
  refine c_block ?_
  refine c_seq ?_
  refine c_region ?_
  refine seqq (o_y (y_move rfl) rfl ?_)
  refine seqq (o_y (y_move rfl) rfl ?_)
  refine seqq (o_y (y_nilCheck rfl) rfl ?_)
  refine seqq (o_y (y_fieldAddr Tryz.runUnderlying130 rfl Tryz.sizeOf36 rfl rfl) rfl ?_)
  refine seqq (o_y (l1 Tryz.isAgg36 rfl (by rfl)) rfl ?_)
  refine seqq (o_y (y_move rfl) rfl ?_)
  refine seqq (o_y (y_convB UK.u8 Tryz.runUnderlying49 Tryz.runUnderlying5 rfl) rfl ?_)
  refine seqq (o_buildSlice (zs := [P1 (bv .u8 0#8)]) Tryz.runUnderlying36 Tryz.sizeOf5 Tryz.zeroValue5 (by kernel_rfl) rfl rfl (.one rfl rfl .nil) (by rfl) rfl (fun b24 => ?_))
  refine seqq (o_app1 (bs := ((((bs ++ [(x).setWidth 8]) ++ [((x >>> 8)).setWidth 8]) ++ [(((x >>> 8) >>> 8)).setWidth 8]) ++ [((((x >>> 8) >>> 8) >>> 8)).setWidth 8])) (x8 := (((((x >>> 8) >>> 8) >>> 8) >>> 8)).setWidth 8) q3 Tryz.runUnderlying36 Tryz.sizeOf5 Tryz.zeroValue5 (by kernel_rfl) Tryz.typeInfo5 rfl Tryz.runUnderlying36 rfl rfl rfl rfl hq3 (by rfl) (by simp; omega) rfl (fun q4 hq4 => ?_))
  refine seqq (o_y (y_nilCheck rfl) rfl ?_)
  refine seqq (o_y (y_fieldAddr Tryz.runUnderlying130 rfl Tryz.sizeOf36 rfl rfl) rfl ?_)
  refine seqq (st1 (h1 := vg_one _ _) Tryz.sizeOf36 rfl rfl (by rfl) (by rfl) ?_)
  refine c_nil ?_
  refine c_region ?_
  refine seqq (o_y (y_move rfl) rfl ?_)
  refine seqq (o_y (y_shrB (s := 8) UK.u64 rfl rfl) rfl ?_)
  refine seqq (o_y (y_assign rfl) rfl ?_)
  refine c_nil ?_
  refine c_region ?_
  refine seqq (o_y (y_binZ (v := .int .i64 5) rfl rfl (fun _ => by rfl)) rfl ?_)
  refine seqq (o_y (y_move rfl) rfl ?_)
  refine c_nil ?_
  refine c_round ?_
  refine c_seq ?_
  refine c_region ?_
  refine seqq (o_y (y_binZ (v := .bool true) rfl rfl (fun _ => by rfl)) rfl ?_)
  refine c_nil ?_
  refine c_seq ?_
  refine c_condT rfl ?_
  refine c_skip ?_
  refine c_seq ?_
  refine c_block ?_
  refine c_seq ?_
  refine c_region ?_
  refine seqq (o_y (y_move rfl) rfl ?_)
  refine seqq (o_y (y_move rfl) rfl ?_)
  refine seqq (o_y (y_nilCheck rfl) rfl ?_)
  refine seqq (o_y (y_fieldAddr Tryz.runUnderlying130 rfl Tryz.sizeOf36 rfl rfl) rfl ?_)
  refine seqq (o_y (l1 Tryz.isAgg36 rfl (by rfl)) rfl ?_)
  refine seqq (o_y (y_move rfl) rfl ?_)
  refine seqq (o_y (y_convB UK.u8 Tryz.runUnderlying49 Tryz.runUnderlying5 rfl) rfl ?_)
  refine seqq (o_buildSlice (zs := [P1 (bv .u8 0#8)]) Tryz.runUnderlying36 Tryz.sizeOf5 Tryz.zeroValue5 (by kernel_rfl) rfl rfl (.one rfl rfl .nil) (by rfl) rfl (fun b24 => ?_))
  refine seqq (o_app1 (bs := (((((bs ++ [(x).setWidth 8]) ++ [((x >>> 8)).setWidth 8]) ++ [(((x >>> 8) >>> 8)).setWidth 8]) ++ [((((x >>> 8) >>> 8) >>> 8)).setWidth 8]) ++ [(((((x >>> 8) >>> 8) >>> 8) >>> 8)).setWidth 8])) (x8 := ((((((x >>> 8) >>> 8) >>> 8) >>> 8) >>> 8)).setWidth 8) q4 Tryz.runUnderlying36 Tryz.sizeOf5 Tryz.zeroValue5 (by kernel_rfl) Tryz.typeInfo5 rfl Tryz.runUnderlying36 rfl rfl rfl rfl hq4 (by rfl) (by simp; omega) rfl (fun q5 hq5 => ?_))
  refine seqq (o_y (y_nilCheck rfl) rfl ?_)
  refine seqq (o_y (y_fieldAddr Tryz.runUnderlying130 rfl Tryz.sizeOf36 rfl rfl) rfl ?_)
  refine seqq (st1 (h1 := vg_one _ _) Tryz.sizeOf36 rfl rfl (by rfl) (by rfl) ?_)
  refine c_nil ?_
  refine c_region ?_
  refine seqq (o_y (y_move rfl) rfl ?_)
  refine seqq (o_y (y_shrB (s := 8) UK.u64 rfl rfl) rfl ?_)
  refine seqq (o_y (y_assign rfl) rfl ?_)
  refine c_nil ?_
  refine c_region ?_
  refine seqq (o_y (y_binZ (v := .int .i64 6) rfl rfl (fun _ => by rfl)) rfl ?_)
  refine seqq (o_y (y_move rfl) rfl ?_)
  refine c_nil ?_
  refine c_round ?_
  refine c_seq ?_
  refine c_region ?_
  refine seqq (o_y (y_binZ (v := .bool true) rfl rfl (fun _ => by rfl)) rfl ?_)
  refine c_nil ?_
  refine c_seq ?_
  refine c_condT rfl ?_
  refine c_skip ?_
  refine c_seq ?_
  refine c_block ?_
  refine c_seq ?_
  refine c_region ?_
  refine seqq (o_y (y_move rfl) rfl ?_)
  refine seqq (o_y (y_move rfl) rfl ?_)
  refine seqq (o_y (y_nilCheck rfl) rfl ?_)
  refine seqq (o_y (y_fieldAddr Tryz.runUnderlying130 rfl Tryz.sizeOf36 rfl rfl) rfl ?_)
  refine seqq (o_y (l1 Tryz.isAgg36 rfl (by rfl)) rfl ?_)
  refine seqq (o_y (y_move rfl) rfl ?_)
  refine seqq (o_y (y_convB UK.u8 Tryz.runUnderlying49 Tryz.runUnderlying5 rfl) rfl ?_)
  refine seqq (o_buildSlice (zs := [P1 (bv .u8 0#8)]) Tryz.runUnderlying36 Tryz.sizeOf5 Tryz.zeroValue5 (by kernel_rfl) rfl rfl (.one rfl rfl .nil) (by rfl) rfl (fun b24 => ?_))
  refine seqq (o_app1 (bs := ((((((bs ++ [(x).setWidth 8]) ++ [((x >>> 8)).setWidth 8]) ++ [(((x >>> 8) >>> 8)).setWidth 8]) ++ [((((x >>> 8) >>> 8) >>> 8)).setWidth 8]) ++ [(((((x >>> 8) >>> 8) >>> 8) >>> 8)).setWidth 8]) ++ [((((((x >>> 8) >>> 8) >>> 8) >>> 8) >>> 8)).setWidth 8])) (x8 := (((((((x >>> 8) >>> 8) >>> 8) >>> 8) >>> 8) >>> 8)).setWidth 8) q5 Tryz.runUnderlying36 Tryz.sizeOf5 Tryz.zeroValue5 (by kernel_rfl) Tryz.typeInfo5 rfl Tryz.runUnderlying36 rfl rfl rfl rfl hq5 (by rfl) (by simp; omega) rfl (fun q6 hq6 => ?_))
  refine seqq (o_y (y_nilCheck rfl) rfl ?_)
  refine seqq (o_y (y_fieldAddr Tryz.runUnderlying130 rfl Tryz.sizeOf36 rfl rfl) rfl ?_)
  refine seqq (st1 (h1 := vg_one _ _) Tryz.sizeOf36 rfl rfl (by rfl) (by rfl) ?_)
  refine c_nil ?_
  refine c_region ?_
  refine seqq (o_y (y_move rfl) rfl ?_)
  refine seqq (o_y (y_shrB (s := 8) UK.u64 rfl rfl) rfl ?_)
  refine seqq (o_y (y_assign rfl) rfl ?_)
  refine c_nil ?_
  refine c_region ?_
  refine seqq (o_y (y_binZ (v := .int .i64 7) rfl rfl (fun _ => by rfl)) rfl ?_)
  refine seqq (o_y (y_move rfl) rfl ?_)
  refine c_nil ?_
  refine c_round ?_
  refine c_seq ?_
  refine c_region ?_
  refine seqq (o_y (y_binZ (v := .bool true) rfl rfl (fun _ => by rfl)) rfl ?_)
  refine c_nil ?_
  refine c_seq ?_
  refine c_condT rfl ?_
  refine c_skip ?_
  refine c_seq ?_
  refine c_block ?_
  refine c_seq ?_
  refine c_region ?_
  refine seqq (o_y (y_move rfl) rfl ?_)
  refine seqq (o_y (y_move rfl) rfl ?_)
  refine seqq (o_y (y_nilCheck rfl) rfl ?_)
  refine seqq (o_y (y_fieldAddr Tryz.runUnderlying130 rfl Tryz.sizeOf36 rfl rfl) rfl ?_)
  refine seqq (o_y (l1 Tryz.isAgg36 rfl (by rfl)) rfl ?_)
  refine seqq (o_y (y_move rfl) rfl ?_)
  refine seqq (o_y (y_convB UK.u8 Tryz.runUnderlying49 Tryz.runUnderlying5 rfl) rfl ?_)
  refine seqq (o_buildSlice (zs := [P1 (bv .u8 0#8)]) Tryz.runUnderlying36 Tryz.sizeOf5 Tryz.zeroValue5 (by kernel_rfl) rfl rfl (.one rfl rfl .nil) (by rfl) rfl (fun b24 => ?_))
  refine seqq (o_app1 (bs := (((((((bs ++ [(x).setWidth 8]) ++ [((x >>> 8)).setWidth 8]) ++ [(((x >>> 8) >>> 8)).setWidth 8]) ++ [((((x >>> 8) >>> 8) >>> 8)).setWidth 8]) ++ [(((((x >>> 8) >>> 8) >>> 8) >>> 8)).setWidth 8]) ++ [((((((x >>> 8) >>> 8) >>> 8) >>> 8) >>> 8)).setWidth 8]) ++ [(((((((x >>> 8) >>> 8) >>> 8) >>> 8) >>> 8) >>> 8)).setWidth 8])) (x8 := ((((((((x >>> 8) >>> 8) >>> 8) >>> 8) >>> 8) >>> 8) >>> 8)).setWidth 8) q6 Tryz.runUnderlying36 Tryz.sizeOf5 Tryz.zeroValue5 (by kernel_rfl) Tryz.typeInfo5 rfl Tryz.runUnderlying36 rfl rfl rfl rfl hq6 (by rfl) (by simp; omega) rfl (fun q7 hq7 => ?_))
  refine seqq (o_y (y_nilCheck rfl) rfl ?_)
  refine seqq (o_y (y_fieldAddr Tryz.runUnderlying130 rfl Tryz.sizeOf36 rfl rfl) rfl ?_)
  refine seqq (st1 (h1 := vg_one _ _) Tryz.sizeOf36 rfl rfl (by rfl) (by rfl) ?_)
  refine c_nil ?_
  refine c_region ?_
  refine seqq (o_y (y_move rfl) rfl ?_)
  refine seqq (o_y (y_shrB (s := 8) UK.u64 rfl rfl) rfl ?_)
  refine seqq (o_y (y_assign rfl) rfl ?_)
  refine c_nil ?_
  refine c_region ?_
  refine seqq (o_y (y_binZ (v := .int .i64 8) rfl rfl (fun _ => by rfl)) rfl ?_)
  refine seqq (o_y (y_move rfl) rfl ?_)
  refine c_nil ?_
  refine c_round ?_
  refine c_seq ?_
  refine c_region ?_
  refine seqq (o_y (y_binZ (v := .bool false) rfl rfl (fun _ => by rfl)) rfl ?_)
  refine c_nil ?_
  refine c_seq ?_
  refine c_condF rfl ?_
  refine c_exit ?_
  refine c_end ?_
  rw [hL] at hq7
  rw [hL]
  refine c_done0 Tryz.results64  (fun w hS => ?_)
  exact ⟨q7, hq7, rfl, hS.fin (N := [[(bw, obj 130 [P1 (q7.val (bs ++ putB x 8).length) (vg_one _ _)])], q7.seg 5 (By (bs ++ putB x 8))])⟩

theorem oct_Raw (bw : Nat) (g : VG) (bs ns : List (BitVec 8)) (v : Value) (hg : g.ok 1 bs.length (By bs)) (hb : bs.length + ns.length ≤ 1073741824) (Rd : List Seg) (hv : ∀ w, Pts Rd w → SlIn w v (By ns)) (w : World)
    (hSt : St w (dom [wSeg bw g bs, g.seg 5 (By bs)]) Rd [wSeg bw g bs, g.seg 5 (By bs)] w) :
    Calls Tryz.prog 65 [.pointer (some ⟨bw, 0, none⟩), v].toArray w (Ret fun u w' => ∃ g' : VG, g'.ok 1 (bs ++ ns).length (By (bs ++ ns)) ∧ u = .tuple #[] ∧
      St w (dom [wSeg bw g bs, g.seg 5 (By bs)]) [] [wSeg bw g' (bs ++ ns), g'.seg 5 (By (bs ++ ns))] w') := by
  refine begin_ Tryz.func65 rfl Tryz.ntmps65 rfl hSt ?_
  change J _ _ _ _ ([(bw, obj 130 [P1 (g.val bs.length) (vg_one _ _)])] :: _) _
  refine c_seq ?_
  refine c_region ?_
  refine seqq (o_y (y_move rfl) rfl ?_)
  refine seqq (o_y (y_neqNilPk (v := true) Tryz.runUnderlying162 rfl rfl rfl) rfl ?_)
  refine c_nil ?_
  refine c_condT rfl ?_
  refine c_region ?_
  refine seqq (o_y (y_move rfl) rfl ?_)
  refine seqq (o_y (y_move rfl) rfl ?_)
  refine seqq (o_y (y_nilCheck rfl) rfl ?_)
  refine seqq (o_y (y_fieldAddr Tryz.runUnderlying130 rfl Tryz.sizeOf36 rfl rfl) rfl ?_)
  refine seqq (o_y (l1 Tryz.isAgg36 rfl (by rfl)) rfl ?_)
  refine seqq (o_y (y_move rfl) rfl ?_)
  refine seqq (o_appN (bs := bs) (ns := ns) g Tryz.runUnderlying36 Tryz.sizeOf5 Tryz.zeroValue5 (by kernel_rfl) Tryz.typeInfo5 rfl Tryz.runUnderlying36 rfl rfl rfl rfl hg (hv_left hv) (by omega) rfl (fun g2 hg2 => ?_))
  refine seqq (o_y (y_nilCheck rfl) rfl ?_)
  refine seqq (o_y (y_fieldAddr Tryz.runUnderlying130 rfl Tryz.sizeOf36 rfl rfl) rfl ?_)
  refine seqq (st1 (h1 := vg_one _ _) Tryz.sizeOf36 rfl rfl (by rfl) (by rfl) ?_)
  refine c_nil ?_
  refine c_end ?_
  refine c_done0 Tryz.results65  (fun w hS => ?_)
  exact ⟨g2, hg2, rfl, hS.fin (N := [[(bw, obj 130 [P1 (g2.val (bs ++ ns).length) (vg_one _ _)])], g2.seg 5 (By (bs ++ ns))])⟩

theorem oct_Bytes (bw : Nat) (g : VG) (bs : List (BitVec 8)) (hg : g.ok 1 bs.length (By bs)) (hb : bs.length ≤ 1073741824) (w : World) (hw : Pts [wSeg bw g bs, g.seg 5 (By bs)] w) :
    Quiet Tryz.prog 66 [.pointer (some ⟨bw, 0, none⟩)] (NewSl 5 (By bs)) w := by
  refine beginR Tryz.func66 rfl Tryz.ntmps66 rfl hw ?_
  change J _ _ _ ⟨_, _, ([(bw, obj 130 [P1 (g.val bs.length) (vg_one _ _)])] :: _)⟩ _ _
  refine c_seq ?_
  refine c_region ?_
  refine seqq (o_y (y_assign rfl) rfl ?_)
  refine c_nil ?_
  refine c_seq ?_
  refine c_seq ?_
  refine c_region ?_
  refine seqq (o_y (y_move rfl) rfl ?_)
  refine seqq (o_y (y_eqlNilPk (v := false) Tryz.runUnderlying162 rfl rfl rfl) rfl ?_)
  refine c_nil ?_
  refine c_condF rfl ?_
  refine c_skip ?_
  refine c_seq ?_
  refine c_region ?_
  refine seqq (o_y (y_move rfl) rfl ?_)
  refine seqq (o_y (y_nilCheck rfl) rfl ?_)
  refine seqq (o_y (y_fieldAddr Tryz.runUnderlying130 rfl Tryz.sizeOf36 rfl rfl) rfl ?_)
  refine seqq (o_y (l1 Tryz.isAgg36 rfl (by rfl)) rfl ?_)
  refine seqq (o_newsl (T := 5) (cs := By bs) Tryz.call95 rfl rfl (fun w hw => slices_Clone (vg_reads (e := 5) hg (fun p hp => hw p (by simp only [List.flatten_append, List.flatten_cons, List.mem_append]; exact .inl (.inr (.inl hp))))) (by_one bs) (by rw [by_len]; omega)) (fun g2 hg2 => ?_))
  refine seqq (o_y (y_assign rfl) rfl ?_)
  refine c_nil ?_
  refine c_ret ?_
  refine c_done1 Tryz.results66 (.tmp rfl) (fun w hS => ?_)
  exact ⟨_, ⟨g2, rfl, hg2, rfl⟩, hS.fin (N := [g2.seg 5 (By bs)])⟩
