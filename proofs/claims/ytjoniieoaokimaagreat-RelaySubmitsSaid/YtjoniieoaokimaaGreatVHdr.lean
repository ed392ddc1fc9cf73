/- Walks and laws of this claim, part Hdr. -/
import Derived.Test.YtjoniieoaokimaaGreatVRd
set_option linter.unusedVariables false
set_option linter.unusedSimpArgs false
set_option linter.unusedSectionVars false
set_option autoImplicit true
set_option relaxedAutoImplicit true
set_option maxRecDepth 100000
set_option maxHeartbeats 1000000
namespace Go.Proofs
open V
/-! ### headers -/
structure Hd where
  ver : BitVec 32
  ahead : H32
  root : H32
  time : BitVec 32
  bits : BitVec 32
  nonce : BitVec 32
def hdP (h : Hd) : List Part := [P1 (bv .u32 h.ver) rfl, hP h.ahead, hP h.root, P1 (bv .u32 h.time) rfl, P1 (bv .u32 h.bits) rfl, P1 (bv .u32 h.nonce) rfl]
def vHd (h : Hd) : Value := vagg (hdP h)
def h0 : H32 := ⟨List.replicate 32 0#8, by simp⟩
def hd0 : Hd := ⟨0#32, h0, h0, 0#32, 0#32, 0#32⟩
def hdB (h : Hd) : List (BitVec 8) := [] ++ putB (h.ver.setWidth 64) 4 ++ h.ahead.1 ++ h.root.1 ++ putB (h.time.setWidth 64) 4 ++ putB (h.bits.setWidth 64) 4 ++ putB (h.nonce.setWidth 64) 4
theorem hdB_len (h : Hd) : (hdB h).length = 80 := by simp [hdB, putB_len, h.ahead.2, h.root.2]
def hashH (h : Hd) : H32 := dbl (hdB h)

theorem hdr_Bytes (h : Hd) (w : World) : Quiet Tryz.prog 24 [vHd h] (NewSl 5 (By (hdB h))) w := by
  refine begin0 Tryz.func24 rfl Tryz.ntmps24 rfl ?_
  refine c_seq ?_
  refine c_region ?_
  refine seqq (o_box (T := 28) rfl (IsP.agg).cells rfl (fun b1 => ?_))
  refine seqq (o_y (y_assign rfl) rfl ?_)
  refine c_nil ?_
  refine c_seq ?_
  refine c_region ?_
  refine seqq (o_alloc (ps := [P1 (.slice none 0 0)]) Tryz.zeroValue130 (by kernel_rfl) rfl (fun b3 => ?_))
  refine j_obj b3 (ps' := [P1 (VG.val .nil ([] : List (BitVec 8)).length) (vg_one _ _)]) rfl (by rfl) ?_
  refine j_nilseg (T := 5) (cs := By []) ?_
  refine c_nil ?_
  refine c_seq ?_
  refine c_region ?_
  refine seqq (o_y (y_fieldAddr Tryz.runUnderlying28 rfl Tryz.sizeOf22 rfl rfl) rfl ?_)
  refine seqq (o_y (l1 Tryz.isAgg22 rfl (by rfl)) rfl ?_)
  refine seqq (o_y (y_convB UK.u64 Tryz.runUnderlying22 Tryz.runUnderlying49 rfl) rfl ?_)
  refine seqq (o_own2 (X := VG) (v := fun _ => .tuple #[]) (p := fun x => x.ok 1 (([] : List (BitVec 8)) ++ putB (h.ver.setWidth 64) 4).length (By (([] : List (BitVec 8)) ++ putB (h.ver.setWidth 64) 4))) [[(b3, obj 130 [P1 (VG.val VG.nil (([] : List (BitVec 8))).length) (vg_one _ _)])], VG.seg VG.nil 5 (By ([] : List (BitVec 8)))] (A := fun x => [(b3, obj 130 [P1 (VG.val x ((([] : List (BitVec 8)) ++ putB (h.ver.setWidth 64) 4)).length) (vg_one _ _)])]) (B := fun x => x.seg 5 (By (([] : List (BitVec 8)) ++ putB (h.ver.setWidth 64) 4))) Tryz.call64 rfl rfl (fun w hw => (oct_Put4 b3 VG.nil ([] : List (BitVec 8)) (h.ver.setWidth 64) ⟨rfl, rfl⟩ (by simp [putB_len, h.ahead.2, h.root.2]) _ w hw).mono (fun e w2 h => by obtain ⟨v, h1, x, h2, h3, h4⟩ := h; exact ⟨v, h1, x, h2, h3, h4⟩)) (fun g1 hg1 => ?_))
  refine c_nil ?_
  refine c_seq ?_
  refine c_region ?_
  refine seqq (o_y (y_fieldAddr Tryz.runUnderlying28 rfl Tryz.sizeOf26 rfl rfl) rfl ?_)
  refine seqq (o_y (y_sliceArr Tryz.runUnderlying26 Tryz.sizeOf5 rfl) rfl ?_)
  refine seqq (o_own2 (X := VG) (v := fun _ => .tuple #[]) (p := fun x => x.ok 1 ((([] : List (BitVec 8)) ++ putB (h.ver.setWidth 64) 4) ++ h.ahead.1).length (By ((([] : List (BitVec 8)) ++ putB (h.ver.setWidth 64) 4) ++ h.ahead.1))) [[(b3, obj 130 [P1 (VG.val g1 ((([] : List (BitVec 8)) ++ putB (h.ver.setWidth 64) 4)).length) (vg_one _ _)])], VG.seg g1 5 (By (([] : List (BitVec 8)) ++ putB (h.ver.setWidth 64) 4))] (A := fun x => [(b3, obj 130 [P1 (VG.val x (((([] : List (BitVec 8)) ++ putB (h.ver.setWidth 64) 4) ++ h.ahead.1)).length) (vg_one _ _)])]) (B := fun x => x.seg 5 (By ((([] : List (BitVec 8)) ++ putB (h.ver.setWidth 64) 4) ++ h.ahead.1))) Tryz.call65 rfl rfl (fun w hw => (oct_Raw b3 g1 (([] : List (BitVec 8)) ++ putB (h.ver.setWidth 64) 4) h.ahead.1 _ hg1 (by simp [putB_len, h.ahead.2, h.root.2]) _ (fun w hw => slIn_part (mem_pts inferInstance w hw) (by rfl)) w hw).mono (fun e w2 h => by obtain ⟨v, h1, x, h2, h3, h4⟩ := h; exact ⟨v, h1, x, h2, h3, h4⟩)) (fun g2 hg2 => ?_))
  refine c_nil ?_
  refine c_seq ?_
  refine c_region ?_
  refine seqq (o_y (y_fieldAddr Tryz.runUnderlying28 rfl Tryz.sizeOf26 rfl rfl) rfl ?_)
  refine seqq (o_y (y_sliceArr Tryz.runUnderlying26 Tryz.sizeOf5 rfl) rfl ?_)
  refine seqq (o_own2 (X := VG) (v := fun _ => .tuple #[]) (p := fun x => x.ok 1 (((([] : List (BitVec 8)) ++ putB (h.ver.setWidth 64) 4) ++ h.ahead.1) ++ h.root.1).length (By (((([] : List (BitVec 8)) ++ putB (h.ver.setWidth 64) 4) ++ h.ahead.1) ++ h.root.1))) [[(b3, obj 130 [P1 (VG.val g2 (((([] : List (BitVec 8)) ++ putB (h.ver.setWidth 64) 4) ++ h.ahead.1)).length) (vg_one _ _)])], VG.seg g2 5 (By ((([] : List (BitVec 8)) ++ putB (h.ver.setWidth 64) 4) ++ h.ahead.1))] (A := fun x => [(b3, obj 130 [P1 (VG.val x ((((([] : List (BitVec 8)) ++ putB (h.ver.setWidth 64) 4) ++ h.ahead.1) ++ h.root.1)).length) (vg_one _ _)])]) (B := fun x => x.seg 5 (By (((([] : List (BitVec 8)) ++ putB (h.ver.setWidth 64) 4) ++ h.ahead.1) ++ h.root.1))) Tryz.call65 rfl rfl (fun w hw => (oct_Raw b3 g2 ((([] : List (BitVec 8)) ++ putB (h.ver.setWidth 64) 4) ++ h.ahead.1) h.root.1 _ hg2 (by simp [putB_len, h.ahead.2, h.root.2]) _ (fun w hw => slIn_part (mem_pts inferInstance w hw) (by rfl)) w hw).mono (fun e w2 h => by obtain ⟨v, h1, x, h2, h3, h4⟩ := h; exact ⟨v, h1, x, h2, h3, h4⟩)) (fun g3 hg3 => ?_))
  refine c_nil ?_
  refine c_seq ?_
  refine c_seq ?_
  refine c_region ?_
  refine seqq (o_y (y_fieldAddr Tryz.runUnderlying28 rfl Tryz.sizeOf22 rfl rfl) rfl ?_)
  refine seqq (o_y (l1 Tryz.isAgg22 rfl (by rfl)) rfl ?_)
  refine seqq (o_y (y_fieldAddr Tryz.runUnderlying28 rfl Tryz.sizeOf22 rfl rfl) rfl ?_)
  refine seqq (o_y (l1 Tryz.isAgg22 rfl (by rfl)) rfl ?_)
  refine seqq (o_y (y_fieldAddr Tryz.runUnderlying28 rfl Tryz.sizeOf22 rfl rfl) rfl ?_)
  refine seqq (o_y (l1 Tryz.isAgg22 rfl (by rfl)) rfl ?_)
  refine seqq (o_y (y_buildA (zs := [P1 (bv .u32 0#32), P1 (bv .u32 0#32), P1 (bv .u32 0#32)]) Tryz.runUnderlying133 Tryz.sizeOf22 Tryz.zeroValue133 (by kernel_rfl) (.one rfl rfl (.one rfl rfl (.one rfl rfl .nil))) (by rfl)) rfl ?_)
  refine seqq (o_y (y_move rfl) rfl ?_)
  refine c_nil ?_
  refine c_block ?_
  refine c_loop 4 ?_
  refine c_round ?_
  refine c_seq ?_
  refine c_region ?_
  refine seqq (o_y (y_binZ (v := .bool true) rfl rfl (fun _ => by rfl)) rfl ?_)
  refine c_nil ?_
  refine c_seq ?_
  refine c_condT rfl ?_
  refine c_skip ?_
  refine c_seq ?_
  refine c_block ?_
  refine c_seq ?_
  refine c_region ?_
  refine seqq (o_y (y_index1 Tryz.runUnderlying133 Tryz.isAgg22 Tryz.sizeOf22 rfl rfl (by decide) (by rfl)) rfl ?_)
  refine seqq (o_y (y_assign rfl) rfl ?_)
  refine c_nil ?_
  refine c_region ?_
  refine seqq (o_y (y_move rfl) rfl ?_)
  refine seqq (o_y (y_convB UK.u64 Tryz.runUnderlying22 Tryz.runUnderlying49 rfl) rfl ?_)
  refine seqq (o_own2 (X := VG) (v := fun _ => .tuple #[]) (p := fun x => x.ok 1 ((((([] : List (BitVec 8)) ++ putB (h.ver.setWidth 64) 4) ++ h.ahead.1) ++ h.root.1) ++ putB (h.time.setWidth 64) 4).length (By ((((([] : List (BitVec 8)) ++ putB (h.ver.setWidth 64) 4) ++ h.ahead.1) ++ h.root.1) ++ putB (h.time.setWidth 64) 4))) [[(b3, obj 130 [P1 (VG.val g3 ((((([] : List (BitVec 8)) ++ putB (h.ver.setWidth 64) 4) ++ h.ahead.1) ++ h.root.1)).length) (vg_one _ _)])], VG.seg g3 5 (By (((([] : List (BitVec 8)) ++ putB (h.ver.setWidth 64) 4) ++ h.ahead.1) ++ h.root.1))] (A := fun x => [(b3, obj 130 [P1 (VG.val x (((((([] : List (BitVec 8)) ++ putB (h.ver.setWidth 64) 4) ++ h.ahead.1) ++ h.root.1) ++ putB (h.time.setWidth 64) 4)).length) (vg_one _ _)])]) (B := fun x => x.seg 5 (By ((((([] : List (BitVec 8)) ++ putB (h.ver.setWidth 64) 4) ++ h.ahead.1) ++ h.root.1) ++ putB (h.time.setWidth 64) 4))) Tryz.call64 rfl rfl (fun w hw => (oct_Put4 b3 g3 (((([] : List (BitVec 8)) ++ putB (h.ver.setWidth 64) 4) ++ h.ahead.1) ++ h.root.1) (h.time.setWidth 64) hg3 (by simp [putB_len, h.ahead.2, h.root.2]) _ w hw).mono (fun e w2 h => by obtain ⟨v, h1, x, h2, h3, h4⟩ := h; exact ⟨v, h1, x, h2, h3, h4⟩)) (fun g4 hg4 => ?_))
  refine c_nil ?_
  refine c_region ?_
  refine seqq (o_y (y_binZ (v := .int .i64 1) rfl rfl (fun _ => by rfl)) rfl ?_)
  refine seqq (o_y (y_move rfl) rfl ?_)
  refine c_nil ?_
  refine c_round ?_
  refine c_seq ?_
  refine c_region ?_
  refine seqq (o_y (y_binZ (v := .bool true) rfl rfl (fun _ => by rfl)) rfl ?_)
  refine c_nil ?_
  refine c_seq ?_
  refine c_condT rfl ?_
  refine c_skip ?_
  refine c_seq ?_
  refine c_block ?_
  refine c_seq ?_
  refine c_region ?_
  refine seqq (o_y (y_index1 Tryz.runUnderlying133 Tryz.isAgg22 Tryz.sizeOf22 rfl rfl (by decide) (by rfl)) rfl ?_)
  refine seqq (o_y (y_assign rfl) rfl ?_)
  refine c_nil ?_
  refine c_region ?_
  refine seqq (o_y (y_move rfl) rfl ?_)
  refine seqq (o_y (y_convB UK.u64 Tryz.runUnderlying22 Tryz.runUnderlying49 rfl) rfl ?_)
  refine seqq (o_own2 (X := VG) (v := fun _ => .tuple #[]) (p := fun x => x.ok 1 (((((([] : List (BitVec 8)) ++ putB (h.ver.setWidth 64) 4) ++ h.ahead.1) ++ h.root.1) ++ putB (h.time.setWidth 64) 4) ++ putB (h.bits.setWidth 64) 4).length (By (((((([] : List (BitVec 8)) ++ putB (h.ver.setWidth 64) 4) ++ h.ahead.1) ++ h.root.1) ++ putB (h.time.setWidth 64) 4) ++ putB (h.bits.setWidth 64) 4))) [[(b3, obj 130 [P1 (VG.val g4 (((((([] : List (BitVec 8)) ++ putB (h.ver.setWidth 64) 4) ++ h.ahead.1) ++ h.root.1) ++ putB (h.time.setWidth 64) 4)).length) (vg_one _ _)])], VG.seg g4 5 (By ((((([] : List (BitVec 8)) ++ putB (h.ver.setWidth 64) 4) ++ h.ahead.1) ++ h.root.1) ++ putB (h.time.setWidth 64) 4))] (A := fun x => [(b3, obj 130 [P1 (VG.val x ((((((([] : List (BitVec 8)) ++ putB (h.ver.setWidth 64) 4) ++ h.ahead.1) ++ h.root.1) ++ putB (h.time.setWidth 64) 4) ++ putB (h.bits.setWidth 64) 4)).length) (vg_one _ _)])]) (B := fun x => x.seg 5 (By (((((([] : List (BitVec 8)) ++ putB (h.ver.setWidth 64) 4) ++ h.ahead.1) ++ h.root.1) ++ putB (h.time.setWidth 64) 4) ++ putB (h.bits.setWidth 64) 4))) Tryz.call64 rfl rfl (fun w hw => (oct_Put4 b3 g4 ((((([] : List (BitVec 8)) ++ putB (h.ver.setWidth 64) 4) ++ h.ahead.1) ++ h.root.1) ++ putB (h.time.setWidth 64) 4) (h.bits.setWidth 64) hg4 (by simp [putB_len, h.ahead.2, h.root.2]) _ w hw).mono (fun e w2 h => by obtain ⟨v, h1, x, h2, h3, h4⟩ := h; exact ⟨v, h1, x, h2, h3, h4⟩)) (fun g5 hg5 => ?_))
  refine c_nil ?_
  refine c_region ?_
  refine seqq (o_y (y_binZ (v := .int .i64 2) rfl rfl (fun _ => by rfl)) rfl ?_)
  refine seqq (o_y (y_move rfl) rfl ?_)
  refine c_nil ?_
  refine c_round ?_
  refine c_seq ?_
  refine c_region ?_
  refine seqq (o_y (y_binZ (v := .bool true) rfl rfl (fun _ => by rfl)) rfl ?_)
  refine c_nil ?_
  refine c_seq ?_
  refine c_condT rfl ?_
  refine c_skip ?_
  refine c_seq ?_
  refine c_block ?_
  refine c_seq ?_
  refine c_region ?_
  refine seqq (o_y (y_index1 Tryz.runUnderlying133 Tryz.isAgg22 Tryz.sizeOf22 rfl rfl (by decide) (by rfl)) rfl ?_)
  refine seqq (o_y (y_assign rfl) rfl ?_)
  refine c_nil ?_
  refine c_region ?_
  refine seqq (o_y (y_move rfl) rfl ?_)
  refine seqq (o_y (y_convB UK.u64 Tryz.runUnderlying22 Tryz.runUnderlying49 rfl) rfl ?_)
  refine seqq (o_own2 (X := VG) (v := fun _ => .tuple #[]) (p := fun x => x.ok 1 ((((((([] : List (BitVec 8)) ++ putB (h.ver.setWidth 64) 4) ++ h.ahead.1) ++ h.root.1) ++ putB (h.time.setWidth 64) 4) ++ putB (h.bits.setWidth 64) 4) ++ putB (h.nonce.setWidth 64) 4).length (By ((((((([] : List (BitVec 8)) ++ putB (h.ver.setWidth 64) 4) ++ h.ahead.1) ++ h.root.1) ++ putB (h.time.setWidth 64) 4) ++ putB (h.bits.setWidth 64) 4) ++ putB (h.nonce.setWidth 64) 4))) [[(b3, obj 130 [P1 (VG.val g5 ((((((([] : List (BitVec 8)) ++ putB (h.ver.setWidth 64) 4) ++ h.ahead.1) ++ h.root.1) ++ putB (h.time.setWidth 64) 4) ++ putB (h.bits.setWidth 64) 4)).length) (vg_one _ _)])], VG.seg g5 5 (By (((((([] : List (BitVec 8)) ++ putB (h.ver.setWidth 64) 4) ++ h.ahead.1) ++ h.root.1) ++ putB (h.time.setWidth 64) 4) ++ putB (h.bits.setWidth 64) 4))] (A := fun x => [(b3, obj 130 [P1 (VG.val x (((((((([] : List (BitVec 8)) ++ putB (h.ver.setWidth 64) 4) ++ h.ahead.1) ++ h.root.1) ++ putB (h.time.setWidth 64) 4) ++ putB (h.bits.setWidth 64) 4) ++ putB (h.nonce.setWidth 64) 4)).length) (vg_one _ _)])]) (B := fun x => x.seg 5 (By ((((((([] : List (BitVec 8)) ++ putB (h.ver.setWidth 64) 4) ++ h.ahead.1) ++ h.root.1) ++ putB (h.time.setWidth 64) 4) ++ putB (h.bits.setWidth 64) 4) ++ putB (h.nonce.setWidth 64) 4))) Tryz.call64 rfl rfl (fun w hw => (oct_Put4 b3 g5 (((((([] : List (BitVec 8)) ++ putB (h.ver.setWidth 64) 4) ++ h.ahead.1) ++ h.root.1) ++ putB (h.time.setWidth 64) 4) ++ putB (h.bits.setWidth 64) 4) (h.nonce.setWidth 64) hg5 (by simp [putB_len, h.ahead.2, h.root.2]) _ w hw).mono (fun e w2 h => by obtain ⟨v, h1, x, h2, h3, h4⟩ := h; exact ⟨v, h1, x, h2, h3, h4⟩)) (fun g6 hg6 => ?_))
  refine c_nil ?_
  refine c_region ?_
  refine seqq (o_y (y_binZ (v := .int .i64 3) rfl rfl (fun _ => by rfl)) rfl ?_)
  refine seqq (o_y (y_move rfl) rfl ?_)
  refine c_nil ?_
  refine c_round ?_
  refine c_seq ?_
  refine c_region ?_
  refine seqq (o_y (y_binZ (v := .bool false) rfl rfl (fun _ => by rfl)) rfl ?_)
  refine c_nil ?_
  refine c_seq ?_
  refine c_condF rfl ?_
  refine c_exit ?_
  refine c_seq ?_
  refine c_region ?_
  refine seqq (o_newsl (T := 5) (cs := By (hdB h)) Tryz.call66 rfl rfl (fun w hw => oct_Bytes b3 g6 (hdB h) hg6 (by rw [hdB_len]; decide) w (fun p hp => hw p (sub_right (N := [[(b3, obj 130 [P1 (VG.val g6 (((((((([] : List (BitVec 8)) ++ putB (h.ver.setWidth 64) 4) ++ h.ahead.1) ++ h.root.1) ++ putB (h.time.setWidth 64) 4) ++ putB (h.bits.setWidth 64) 4) ++ putB (h.nonce.setWidth 64) 4)).length) (vg_one _ _)])], g6.seg 5 (By ((((((([] : List (BitVec 8)) ++ putB (h.ver.setWidth 64) 4) ++ h.ahead.1) ++ h.root.1) ++ putB (h.time.setWidth 64) 4) ++ putB (h.bits.setWidth 64) 4) ++ putB (h.nonce.setWidth 64) 4))]) p hp))) (fun g7 hg7 => ?_))
  refine seqq (o_y (y_assign rfl) rfl ?_)
  refine c_nil ?_
  refine c_ret ?_
  refine c_done1 Tryz.results24 (.tmp rfl) (fun w hS => ?_)
  exact ⟨_, ⟨g7, rfl, hg7, rfl⟩, hS.fin (N := [g7.seg 5 (By (hdB h))])⟩

theorem hdr_Hash (h : Hd) : Pure Tryz.prog 27 [vHd h] (vH (hashH h)) := by
  intro w
  refine begin0 Tryz.func27 rfl Tryz.ntmps27 rfl ?_
  refine c_seq ?_
  refine c_region ?_
  refine seqq (o_box (T := 28) rfl (IsP.agg).cells rfl (fun b1 => ?_))
  refine seqq (o_alloc (ps := [hP h0]) Tryz.zeroValue26 (by kernel_rfl) rfl (fun b2 => ?_))
  refine c_nil ?_
  refine c_seq ?_
  refine c_region ?_
  refine seqq (o_y (lN Tryz.isAgg28 Tryz.sizeOf28 rfl (by rfl)) rfl ?_)
  refine seqq (o_newsl (T := 5) (cs := By (hdB h)) Tryz.call24 rfl rfl (fun w hw => hdr_Bytes h w) (fun g hg => ?_))
  refine seqq (o_pureS Tryz.call67 rfl (fun w hw => dig_Double (bs := hdB h) (by rw [by_len]; exact vg_reads (e := 5) (by rw [by_len] at hg; exact hg) (fun p hp => hw p (sub_right (N := [g.seg 5 (By (hdB h))]) p (by simpa using hp)))) (by rw [hdB_len]; decide)) rfl ?_)
  refine seqq (stN Tryz.sizeOf26 rfl rfl (by rfl) rfl (by rfl) ?_)
  refine c_nil ?_
  refine c_ret ?_
  refine c_done1 Tryz.results27 (rN Tryz.isAgg26 Tryz.sizeOf26 rfl (by rfl)) (fun w hS => ?_)
  exact ⟨rfl, hS.none⟩

def checkH (h : Hd) (lim : Nat) : Int := if decT h.bits = 0 ∨ lim < decT h.bits then 6 else if le (hashH h).1 ≤ decT h.bits then 0 else 7
theorem err6T {p : Prop} [Decidable p] (h : ¬ (if p then (6 : Int) else 0) = 0) : p := Classical.byContradiction fun hc => h (if_neg hc)
theorem err6F {p : Prop} [Decidable p] (h : (if p then (6 : Int) else 0) = 0) : ¬ p := fun hp => by rw [if_pos hp] at h; cases h

theorem hdr_Check (h : Hd) (lim : Nat) (hlim : lim < M256) : Pure Tryz.prog 39 [vHd h, vW lim] (vI (checkH h lim)) := by
  intro w
  have hd := decT_lt h.bits
  refine begin0 Tryz.func39 rfl Tryz.ntmps39 rfl ?_
  refine c_seq ?_
  refine c_region ?_
  refine seqq (o_box (T := 28) rfl (IsP.agg).cells rfl (fun b2 => ?_))
  refine seqq (o_box (T := 51) rfl (IsP.agg).cells rfl (fun b3 => ?_))
  refine seqq (o_y (y_assign rfl) rfl ?_)
  refine c_nil ?_
  refine c_seq ?_
  refine c_region ?_
  refine seqq (o_y (y_fieldAddr Tryz.runUnderlying28 rfl Tryz.sizeOf22 rfl rfl) rfl ?_)
  refine seqq (o_y (l1 Tryz.isAgg22 rfl (by rfl)) rfl ?_)
  refine seqq (o_pure Tryz.call62 rfl (target_Decode _) rfl ?_)
  refine seqq (o_y (y_move rfl) rfl ?_)
  refine seqq (o_y (y_extract rfl rfl) rfl ?_)
  refine seqq (o_y (y_extract rfl rfl) rfl ?_)
  refine seqq (o_alloc (ps := wideN 0) Tryz.zeroValue51 (by kernel_rfl) rfl (fun b5 => ?_))
  refine seqq (stN Tryz.sizeOf51 rfl rfl (by rfl) rfl (by rfl) ?_)
  refine seqq (o_y (y_assign rfl) rfl ?_)
  refine c_nil ?_
  refine c_seq ?_
  refine c_block ?_
  refine c_seq ?_
  refine c_region ?_
  refine seqq (o_y (y_move rfl) rfl ?_)
  refine seqq (o_y (y_neqZ rfl rfl) rfl ?_)
  refine seqq (o_y (y_move rfl) rfl ?_)
  refine j_ifn 16 rfl (fun h16 => ?_) (fun h16 => ?_)
  ·
    refine seqq (guard_false (c := true) rfl rfl rfl rfl ?_)
    refine seqq (guard_false (c := true) rfl rfl rfl rfl ?_)
    refine seqq (guard_false (c := true) rfl rfl rfl rfl ?_)
    refine seqq (guard_false (c := true) rfl rfl rfl rfl ?_)
    refine seqq (o_y (y_pick_t rfl rfl) rfl ?_)
    refine seqq (o_y (y_assign rfl) rfl ?_)
    refine c_nil ?_
    refine c_condT rfl ?_
    refine c_seq ?_
    refine c_region ?_
    refine seqq (o_y (y_assign rfl) rfl ?_)
    refine c_nil ?_
    refine c_ret ?_
    refine c_done1 Tryz.results39 (.tmp rfl) (fun w hS => ?_)
    exact ⟨by rw [checkH, if_pos (.inl (err6T h16))], hS.none⟩
  ·
    refine seqq (guard_true rfl rfl (o_y (lN Tryz.isAgg51 Tryz.sizeOf51 rfl (by rfl)) rfl ?_))
    refine seqq (guard_true rfl rfl (o_y (lN Tryz.isAgg51 Tryz.sizeOf51 rfl (by rfl)) rfl ?_))
    refine seqq (guard_true rfl rfl (o_pure Tryz.call17 rfl (wide_Cmp _ _ hd hlim) rfl ?_))
    refine seqq (guard_true rfl rfl (o_y (y_gtrZ rfl rfl) rfl ?_))
    refine seqq (o_y (y_pick_f rfl rfl) rfl ?_)
    refine seqq (o_y (y_assign rfl) rfl ?_)
    refine c_nil ?_
    refine c_if rfl (fun h13 => ?_) (fun h13 => ?_)
    ·
      refine c_seq ?_
      refine c_region ?_
      refine seqq (o_y (y_assign rfl) rfl ?_)
      refine c_nil ?_
      refine c_ret ?_
      refine c_done1 Tryz.results39 (.tmp rfl) (fun w hS => ?_)
      exact ⟨by rw [checkH, if_pos (.inr (cmp_gt.1 h13))], hS.none⟩
    ·
      refine c_seq ?_
      refine d_reg 6 mixed rfl ?_
      refine d_s (i := 0) (k' := 1) rfl (by kernel_rfl) (by kernel_rfl) (lN Tryz.isAgg28 Tryz.sizeOf28 rfl (by rfl)) hss rfl ?_
      refine d_s (i := 2) (k' := 5) rfl (by kernel_rfl) (by kernel_rfl) (lN Tryz.isAgg51 Tryz.sizeOf51 rfl (by rfl)) hss rfl ?_
      refine d_c (i := 1) (k' := 7) rfl (by kernel_rfl) Tryz.call27 rfl (hdr_Hash _) rfl ?_
      refine d_c (i := 3) (k' := 15) rfl (by kernel_rfl) Tryz.call68 rfl (target_Meets (hashH h).1 (hashH h).2 _ hd) rfl ?_
      refine d_y (i := 4) (k' := 31) rfl (by kernel_rfl) (y_not rfl) rfl ?_
      refine d_y (i := 5) (k' := 63) rfl (by kernel_rfl) (y_assign rfl) rfl ?_
      refine d_end (by kernel_rfl) ?_
      refine c_ifn rfl (fun h22 => ?_) (fun h22 => ?_)
      ·
        refine c_seq ?_
        refine c_region ?_
        refine seqq (o_y (y_assign rfl) rfl ?_)
        refine c_nil ?_
        refine c_ret ?_
        refine c_done1 Tryz.results39 (.tmp rfl) (fun w hS => ?_)
        exact ⟨by rw [checkH, if_neg (by rintro (h | h); exact err6F h16 h; exact h13 (cmp_gt.2 h)), if_neg h22], hS.none⟩
      ·
        refine c_skip ?_
        refine c_seq ?_
        refine c_region ?_
        refine seqq (o_y (y_assign rfl) rfl ?_)
        refine c_nil ?_
        refine c_ret ?_
        refine c_done1 Tryz.results39 (.tmp rfl) (fun w hS => ?_)
        exact ⟨by rw [checkH, if_neg (by rintro (h | h); exact err6F h16 h; exact h13 (cmp_gt.2 h)), if_pos h22], hS.none⟩

def bump (h : Hd) : Hd := ⟨h.ver, h.ahead, h.root, h.time, h.bits, h.nonce + 1#32⟩
/-- the first nonce with work, of k + 1 ones -/
def mineH (h : Hd) (t : Nat) : Nat → Option Hd
  | 0 => if le (hashH h).1 ≤ t then some h else none
  | k + 1 => if le (hashH h).1 ≤ t then some h else if h.nonce = 4294967295#32 then none else mineH (bump h) t k
def mineR (h : Hd) (k : Nat) : Option Hd := if decT h.bits = 0 then none else mineH h (decT h.bits) k
def vMine : Option Hd → Value
  | some h => .tuple #[vHd h, .bool true]
  | none => .tuple #[vHd hd0, .bool false]
theorem mineH_hit {h : Hd} {t : Nat} (k : Nat) (hl : le (hashH h).1 ≤ t) : mineH h t k = some h := by cases k <;> rw [mineH, if_pos hl]
theorem mineH_stop {h : Hd} {t : Nat} (k : Nat) (hl : ¬ le (hashH h).1 ≤ t) (hn : h.nonce = 4294967295#32) : mineH h t k = none := by
  cases k with
  | zero => rw [mineH, if_neg hl]
  | succ k => rw [mineH, if_neg hl, if_pos hn]
theorem mineH_next {h : Hd} {t : Nat} {most x : BitVec 32} (hx : x.toNat ≤ most.toNat) (hl : ¬ le (hashH h).1 ≤ t) (hn : ¬ h.nonce = 4294967295#32) (hm : ¬ x = most) :
    (x + 1#32).toNat ≤ most.toNat ∧ most.toNat - (x + 1#32).toNat < most.toNat - x.toNat ∧ mineH h t (most.toNat - x.toNat) = mineH (bump h) t (most.toNat - (x + 1#32).toNat) := by
  have h1 : x.toNat ≠ most.toNat := fun hc => hm (BitVec.eq_of_toNat_eq hc)
  have h2 : (x + 1#32).toNat = x.toNat + 1 := by
    rw [BitVec.toNat_add]
    have := most.isLt
    show (x.toNat + 1) % 4294967296 = _
    omega
  refine ⟨by omega, by omega, ?_⟩
  have h3 : most.toNat - x.toNat = (most.toNat - (x + 1#32).toNat) + 1 := by omega
  rw [h3, mineH, if_neg hl, if_neg hn]
theorem mine_none {h : Hd} {k : Nat} (e : mineR h k = none) : Value.tuple #[vHd hd0, .bool false] = vMine (mineR h k) := by rw [e]; rfl
theorem mine_some {h r : Hd} {k : Nat} (e : mineR h k = some r) : Value.tuple #[vHd r, .bool true] = vMine (mineR h k) := by rw [e]; rfl

theorem hdr_Mine (h : Hd) (most : BitVec 32) : Pure Tryz.prog 35 [vHd h, bv .u32 most] (vMine (mineR h most.toNat)) := by
  intro w
  have hd := decT_lt h.bits
  refine begin0 Tryz.func35 rfl Tryz.ntmps35 rfl ?_
  refine c_seq ?_
  refine c_region ?_
  refine seqq (o_box (T := 28) rfl (IsP.agg).cells rfl (fun b2 => ?_))
  refine seqq (o_alloc (ps := (hdP hd0)) Tryz.zeroValue28 (by kernel_rfl) rfl (fun b4 => ?_))
  refine seqq (o_y (y_assign rfl) rfl ?_)
  refine c_nil ?_
  refine c_seq ?_
  refine c_region ?_
  refine seqq (o_y (y_fieldAddr Tryz.runUnderlying28 rfl Tryz.sizeOf22 rfl rfl) rfl ?_)
  refine seqq (o_y (l1 Tryz.isAgg22 rfl (by rfl)) rfl ?_)
  refine seqq (o_pure Tryz.call62 rfl (target_Decode _) rfl ?_)
  refine seqq (o_y (y_move rfl) rfl ?_)
  refine seqq (o_y (y_extract rfl rfl) rfl ?_)
  refine seqq (o_y (y_extract rfl rfl) rfl ?_)
  refine seqq (o_alloc (ps := wideN 0) Tryz.zeroValue51 (by kernel_rfl) rfl (fun b6 => ?_))
  refine seqq (stN Tryz.sizeOf51 rfl rfl (by rfl) rfl (by rfl) ?_)
  refine seqq (o_y (y_assign rfl) rfl ?_)
  refine c_nil ?_
  refine c_seq ?_
  refine c_seq ?_
  refine c_region ?_
  refine seqq (o_y (y_move rfl) rfl ?_)
  refine seqq (o_y (y_neqZ rfl rfl) rfl ?_)
  refine c_nil ?_
  refine c_ifn rfl (fun h16 => ?_) (fun h16 => ?_)
  ·
    refine c_seq ?_
    refine c_region ?_
    refine seqq (o_y (y_build (zs := (hdP hd0)) (pl := [(0, 1), (1, 32), (33, 32), (65, 1), (66, 1), (67, 1)]) Tryz.runUnderlying28 Tryz.zeroValue28 (by kernel_rfl) (fun w => by kernel_rfl) .nil (by rfl)) rfl ?_)
    refine seqq (stN Tryz.sizeOf28 rfl rfl (by rfl) rfl (by rfl) ?_)
    refine seqq (o_y (y_assign rfl) rfl ?_)
    refine c_nil ?_
    refine c_ret ?_
    refine c_done2 Tryz.results35 (rN Tryz.isAgg28 Tryz.sizeOf28 rfl (by rfl)) (.tmp rfl) (fun w hS => ?_)
    exact ⟨mine_none (if_pos (err6T h16)), hS.none⟩
  ·
    refine c_skip ?_
    refine c_seq ?_
    refine c_region ?_
    refine seqq (o_y (y_assign (v := bv .u32 0#32) rfl) rfl ?_)
    have e0 : mineR h most.toNat = mineH h (decT h.bits) (most.toNat - 0) := if_neg (err6F h16)
    refine c_nil ?_
    refine c_block ?_
    refine c_while (X := BitVec 32 × Hd) [1, 2, 4, 5, 6] [b4, b6] rfl (fun Ek x => (8, bv .u32 x.1) :: Ek) (fun Mk x => [(b2, obj 28 (hdP x.2))] :: Mk) (fun x => x.1.toNat ≤ most.toNat ∧ mineR h most.toNat = mineH x.2 (decT h.bits) (most.toNat - x.1.toNat)) (fun x => most.toNat - x.1.toNat) (0#32, h) ⟨Nat.zero_le _, e0⟩ ⟨rfl, rfl, rfl, rfl, rfl, rfl, trivial⟩ ?_
    intro x hp
    obtain ⟨hp1, hp2⟩ := hp
    refine c_seq ?_
    refine c_block ?_
    refine c_seq ?_
    refine c_seq ?_
    refine d_reg 4 mixed rfl ?_
    refine d_s (i := 0) (k' := 1) rfl (by kernel_rfl) (by kernel_rfl) (lN Tryz.isAgg28 Tryz.sizeOf28 rfl (by rfl)) hss rfl ?_
    refine d_s (i := 2) (k' := 5) rfl (by kernel_rfl) (by kernel_rfl) (lN Tryz.isAgg51 Tryz.sizeOf51 rfl (by rfl)) hss rfl ?_
    refine d_c (i := 1) (k' := 7) rfl (by kernel_rfl) Tryz.call27 rfl (hdr_Hash _) rfl ?_
    refine d_c (i := 3) (k' := 15) rfl (by kernel_rfl) Tryz.call68 rfl (target_Meets (hashH x.2).1 (hashH x.2).2 _ hd) rfl ?_
    refine d_end (by kernel_rfl) ?_
    refine c_if rfl (fun h23 => ?_) (fun h23 => ?_)
    ·
      refine c_seq ?_
      refine c_region ?_
      refine seqq (o_y (lN Tryz.isAgg28 Tryz.sizeOf28 rfl (by rfl)) rfl ?_)
      refine seqq (stN Tryz.sizeOf28 rfl rfl (by rfl) rfl (by rfl) ?_)
      refine seqq (o_y (y_assign rfl) rfl ?_)
      refine c_nil ?_
      refine c_ret ?_
      refine c_done2 Tryz.results35 (rN Tryz.isAgg28 Tryz.sizeOf28 rfl (by rfl)) (.tmp rfl) (fun w hS => ?_)
      exact ⟨mine_some (hp2.trans (mineH_hit _ h23)), hS.none⟩
    ·
      refine c_skip ?_
      refine c_seq ?_
      refine c_seq ?_
      refine c_region ?_
      refine seqq (o_y (y_move rfl) rfl ?_)
      refine seqq (o_y (y_move rfl) rfl ?_)
      refine seqq (o_y (y_eqlB rfl rfl) rfl ?_)
      refine seqq (o_y (y_move rfl) rfl ?_)
      refine j_if 28 rfl (fun h28 => ?_) (fun h28 => ?_)
      ·
        refine seqq (guard_false (c := true) rfl rfl rfl rfl ?_)
        refine seqq (guard_false (c := true) rfl rfl rfl rfl ?_)
        refine seqq (guard_false (c := true) rfl rfl rfl rfl ?_)
        refine seqq (o_y (y_pick_t rfl rfl) rfl ?_)
        refine c_nil ?_
        refine c_condT rfl ?_
        refine c_seq ?_
        refine c_region ?_
        refine seqq (o_y (y_build (zs := (hdP hd0)) (pl := [(0, 1), (1, 32), (33, 32), (65, 1), (66, 1), (67, 1)]) Tryz.runUnderlying28 Tryz.zeroValue28 (by kernel_rfl) (fun w => by kernel_rfl) .nil (by rfl)) rfl ?_)
        refine seqq (stN Tryz.sizeOf28 rfl rfl (by rfl) rfl (by rfl) ?_)
        refine seqq (o_y (y_assign rfl) rfl ?_)
        refine c_nil ?_
        refine c_ret ?_
        refine c_done2 Tryz.results35 (rN Tryz.isAgg28 Tryz.sizeOf28 rfl (by rfl)) (.tmp rfl) (fun w hS => ?_)
        exact ⟨mine_none (hp2.trans (by rw [h28, Nat.sub_self, mineH, if_neg h23])), hS.none⟩
      ·
        refine seqq (guard_true rfl rfl (o_y (y_fieldAddr Tryz.runUnderlying28 rfl Tryz.sizeOf22 rfl rfl) rfl ?_))
        refine seqq (guard_true rfl rfl (o_y (l1 Tryz.isAgg22 rfl (by rfl)) rfl ?_))
        refine seqq (guard_true rfl rfl (o_y (y_eqlB (Y := 4294967295#32) rfl rfl) rfl ?_))
        refine seqq (o_y (y_pick_f rfl rfl) rfl ?_)
        refine c_nil ?_
        refine c_if rfl (fun h32 => ?_) (fun h32 => ?_)
        ·
          refine c_seq ?_
          refine c_region ?_
          refine seqq (o_y (y_build (zs := (hdP hd0)) (pl := [(0, 1), (1, 32), (33, 32), (65, 1), (66, 1), (67, 1)]) Tryz.runUnderlying28 Tryz.zeroValue28 (by kernel_rfl) (fun w => by kernel_rfl) .nil (by rfl)) rfl ?_)
          refine seqq (stN Tryz.sizeOf28 rfl rfl (by rfl) rfl (by rfl) ?_)
          refine seqq (o_y (y_assign rfl) rfl ?_)
          refine c_nil ?_
          refine c_ret ?_
          refine c_done2 Tryz.results35 (rN Tryz.isAgg28 Tryz.sizeOf28 rfl (by rfl)) (.tmp rfl) (fun w hS => ?_)
          exact ⟨mine_none (hp2.trans (mineH_stop _ h23 h32)), hS.none⟩
        ·
          refine c_skip ?_
          refine c_region ?_
          refine seqq (o_y (y_fieldAddr Tryz.runUnderlying28 rfl Tryz.sizeOf22 rfl rfl) rfl ?_)
          refine seqq (o_y (l1 Tryz.isAgg22 rfl (by rfl)) rfl ?_)
          refine seqq (o_y (y_addB (Y := 1#32) UK.u32 rfl rfl) rfl ?_)
          refine seqq (o_y (y_fieldAddr Tryz.runUnderlying28 rfl Tryz.sizeOf22 rfl rfl) rfl ?_)
          refine seqq (st1 (h1 := rfl) Tryz.sizeOf22 rfl rfl (by rfl) (by rfl) ?_)
          refine c_nil ?_
          refine c_region ?_
          refine seqq (o_y (y_move rfl) rfl ?_)
          refine seqq (o_y (y_addB (Y := 1#32) UK.u32 rfl rfl) rfl ?_)
          refine seqq (o_y (y_assign rfl) rfl ?_)
          refine c_nil ?_
          refine j_obj b2 (ps' := hdP (bump x.2)) rfl (by rfl) ?_
          obtain ⟨n1, n2, n3⟩ := mineH_next hp1 h23 h32 h28
          exact c_next (x.1 + 1#32, bump x.2) ⟨n1, hp2.trans n3⟩ n2 ⟨rfl, rfl, rfl, rfl, rfl, rfl, trivial⟩
