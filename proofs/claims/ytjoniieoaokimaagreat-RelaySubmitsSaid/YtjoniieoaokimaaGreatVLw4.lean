/- Walks and laws of this claim, part Lw4. -/
import Derived.Test.YtjoniieoaokimaaGreatVLw3
set_option linter.unusedVariables false
set_option linter.unusedSimpArgs false
set_option linter.unusedSectionVars false
set_option autoImplicit true
set_option relaxedAutoImplicit true
set_option maxRecDepth 100000
set_option maxHeartbeats 1000000
namespace Go.Proofs
open V
theorem sub_as {w : World} {br : Nat} {deep : Int} {τ : Tr} {h : Hd} {v : Value} {s : TS} (hs : τ.s = s) (hc : Calls Tryz.prog 23 [.pointer (some ⟨br, 0, none⟩), v].toArray w (Ret fun u w' => ∃ x : Tr, ((x.at τ.bt).ok ∧ (x.at τ.bt).s = τ.s.add h) ∧ u = .tuple #[vagg (toldP (toldT τ.s h)), vI (τ.s.err h)] ∧ St w (dom (relM br deep τ)) [] (relM br (deepT τ.s deep h) (x.at τ.bt)) w')) :
    Calls Tryz.prog 23 [.pointer (some ⟨br, 0, none⟩), v].toArray w (Ret fun u w' => ∃ x : Tr, ((x.at τ.bt).ok ∧ (x.at τ.bt).s = s.add h) ∧ u = .tuple #[vagg (toldP (toldT s h)), vI (s.err h)] ∧ St w (dom (relM br deep τ)) [] (relM br (deepT s deep h) (x.at τ.bt)) w') := by
  rw [← hs]; exact hc

theorem law_lives : Pure Tryz.prog 20 [] (.bool true) := by
  intro w
  refine begin0 Tryz.func20 rfl Tryz.ntmps20 rfl ?_
  refine c_seq ?_
  refine c_region ?_
  refine seqq (o_y (y_assign rfl) rfl ?_)
  refine c_nil ?_
  refine c_seq ?_
  refine c_region ?_
  refine seqq (o_pure Tryz.call9 rfl (law_Rules 3 99#32 1) rfl ?_)
  refine seqq (o_alloc (ps := [P1 (vI 0), P1 (bv .u32 0#32), P1 (bv .u32 0#32), P1 (vI 0), P1 (bv .u32 0#32), zleaf .u8 8 32, zleaf .u8 8 32, P1 (bv .u32 0#32), P1 (bv .u32 0#32), P1 (bv .u32 0#32)]) Tryz.zeroValue30 (by kernel_rfl) rfl (fun b1 => ?_))
  refine seqq (stN Tryz.sizeOf30 rfl rfl (by rfl) rfl (by rfl) ?_)
  refine c_nil ?_
  refine c_seq ?_
  refine c_region ?_
  refine seqq (o_y (lN Tryz.isAgg30 Tryz.sizeOf30 rfl (by rfl)) rfl ?_)
  refine seqq (o_new5 (X := Nat × Tr) (v := fun x => .tuple #[.pointer (some ⟨x.1, 0, none⟩), vI 0]) (p := fun x => x.2.ok ∧ x.2.s = newS (rL)) (A := fun x => [(x.1, obj 124 (reP x.2.r x.2.bt 0))]) (B := fun x => [(x.2.bt, obj 91 (trP x.2))]) (C := fun x => [(x.2.bm, mObT x.2.bs x.2.L)]) (A' := fun x => [(x.2.bc, chOb x.2.bs x.2.ch x.2.sp)]) (B' := fun x => ndSeg x.2.bs x.2.L) Tryz.call19 rfl rfl (fun w _ => relay_New (rL) (live_1) w) (fun x hx => ?_))
  obtain ⟨okx, hsx⟩ := hx
  have hsx : x.2.s = sL := hsx
  refine seqq (o_y (y_move rfl) rfl ?_)
  refine seqq (o_y (y_extract rfl rfl) rfl ?_)
  refine seqq (o_y (y_extract rfl rfl) rfl ?_)
  refine seqq (o_y (y_assign rfl) rfl ?_)
  refine seqq (o_y (y_assign rfl) rfl ?_)
  refine c_nil ?_
  refine c_seq ?_
  refine d_reg 7 mixed rfl ?_
  refine d_y (i := 0) (k' := 1) rfl (by kernel_rfl) (y_move rfl) rfl ?_
  refine d_y (i := 2) (k' := 5) rfl (by kernel_rfl) (y_fieldAddr Tryz.runUnderlying30 rfl Tryz.sizeOf28 rfl rfl) rfl ?_
  refine d_s (i := 3) (k' := 13) rfl (by kernel_rfl) (by kernel_rfl) (lN Tryz.isAgg28 Tryz.sizeOf28 rfl (by rfl)) hss rfl ?_
  refine d_y (i := 4) (k' := 29) rfl (by kernel_rfl) (y_build (zs := [P1 (vI 0), P1 (vI 0), P1 (.int .i32 0), P1 (bv .u8 0#8)]) (pl := [(0, 1), (1, 1), (2, 1), (3, 1)]) Tryz.runUnderlying46 Tryz.zeroValue46 (by kernel_rfl) (fun w => by kernel_rfl) (.one (v := .int .i32 10) rfl rfl .nil) (by rfl)) rfl ?_
  refine d_cS (i := 1) (k' := 31) rfl (by kernel_rfl) (by kernel_rfl) Tryz.call22 rfl (PureS.sub (relay_Tree x.1 0 x.2)) hss rfl ?_
  refine d_cS (i := 5) (k' := 63) rfl (by kernel_rfl) (by kernel_rfl) Tryz.call12 rfl (PureS.to (PureS.sub (law_Made x.2 okx rL.first ⟨0, 0, 10, 0#8⟩)) (by rw [hsx]; try rfl)) hss rfl ?_
  refine d_e (i := 6) (k' := 127) rfl (by kernel_rfl) (o_alloc (ps := (hdP hd0)) Tryz.zeroValue28 (by kernel_rfl) rfl (fun b4 => d_keep hss ?_))
  refine d_e (i := 7) (k' := 255) rfl (by kernel_rfl) (stN Tryz.sizeOf28 rfl rfl (by rfl) rfl (by rfl) ( d_past rfl ?_))
  refine d_end (by kernel_rfl) ?_
  refine c_seq ?_
  refine c_region ?_
  refine seqq (o_y (y_move rfl) rfl ?_)
  refine seqq (o_y (lN Tryz.isAgg28 Tryz.sizeOf28 rfl (by rfl)) rfl ?_)
  refine seqq (o_newsl (T := 5) (cs := By (hdB hL)) Tryz.call24 rfl rfl (fun w hw => hdr_Bytes hL w) (fun gB hgB => ?_))
  refine seqq (o_own5 (X := Tr) (v := fun _ => .tuple #[vagg (toldP (toldT sL hL)), vI (sL.err hL)]) (p := fun z => (z.at x.2.bt).ok ∧ (z.at x.2.bt).s = sL.add hL) (relM x.1 0 x.2) (A := fun z => [(x.1, obj 124 (reP (z.at x.2.bt).r x.2.bt (deepT sL 0 hL)))]) (B := fun z => [(x.2.bt, obj 91 (trP (z.at x.2.bt)))]) (C := fun z => [((z.at x.2.bt).bm, mObT (z.at x.2.bt).bs (z.at x.2.bt).L)]) (A' := fun z => [((z.at x.2.bt).bc, chOb (z.at x.2.bt).bs (z.at x.2.bt).ch (z.at x.2.bt).sp)]) (B' := fun z => ndSeg (z.at x.2.bt).bs (z.at x.2.bt).L) Tryz.call23 rfl rfl (fun w hw => sub_as hsx (relay_Submit x.1 0 x.2 okx hL (hdB hL) (by rw [hdB_len]; decide) (parse_hdB hL) (gB.val (By (hdB hL)).length) [gB.seg 5 (By (hdB hL))] (fun w hw => by rw [by_len] at hgB ⊢; exact vg_reads (e := 5) hgB (fun p hp => hw p (by simpa using hp))) w (hw.lessR (sub_right (N := [gB.seg 5 (By (hdB hL))]))))) (fun z hz => ?_))
  obtain ⟨okx2, hsx2⟩ := hz
  refine seqq (o_y (y_move rfl) rfl ?_)
  refine seqq (o_y (y_extract rfl rfl) rfl ?_)
  refine seqq (o_y (y_extract rfl rfl) rfl ?_)
  refine seqq (o_alloc (ps := [zleaf .u8 8 32, P1 (vI 0), P1 (.bool false), P1 (vI 0)]) Tryz.zeroValue67 (by kernel_rfl) rfl (fun b5 => ?_))
  refine seqq (stN Tryz.sizeOf67 rfl rfl (by rfl) rfl (by rfl) ?_)
  refine seqq (o_y (y_assign rfl) rfl ?_)
  refine c_nil ?_
  refine c_seq ?_
  refine c_region ?_
  refine seqq (o_y (y_fieldAddr Tryz.runUnderlying30 rfl Tryz.sizeOf3 rfl rfl) rfl ?_)
  refine seqq (o_y (l1 Tryz.isAgg3 rfl (by rfl)) rfl ?_)
  refine seqq (o_y (y_eqlZ rfl rfl) rfl ?_)
  refine j_re 28 rfl (V.decT live_7) ?_
  refine seqq (o_y (y_move rfl) rfl ?_)
  refine seqq (guard_true rfl rfl (o_y (y_move rfl) rfl ?_))
  refine seqq (guard_true rfl rfl (o_y (y_eqlZ rfl rfl) rfl ?_))
  refine j_re 31 rfl (V.decT rfl) ?_
  refine seqq (o_y (y_pick_t rfl rfl) rfl ?_)
  refine seqq (o_y (y_move rfl) rfl ?_)
  refine seqq (guard_true rfl rfl (o_y (y_move rfl) rfl ?_))
  refine seqq (guard_true rfl rfl (o_y (y_eqlZ rfl rfl) rfl ?_))
  refine j_re 35 rfl (V.decT live_2) ?_
  refine seqq (o_y (y_pick_t rfl rfl) rfl ?_)
  refine seqq (o_y (y_move rfl) rfl ?_)
  refine seqq (guard_true rfl rfl (o_y (y_fieldAddr Tryz.runUnderlying67 rfl Tryz.sizeOf4 rfl rfl) rfl ?_))
  refine seqq (guard_true rfl rfl (o_y (l1 Tryz.isAgg4 rfl (by rfl)) rfl ?_))
  refine j_re 39 rfl (show _ = Value.bool true from by rw [live_3]) ?_
  refine seqq (o_y (y_pick_t rfl rfl) rfl ?_)
  refine seqq (o_y (y_move rfl) rfl ?_)
  refine seqq (guard_true rfl rfl (o_y (y_fieldAddr Tryz.runUnderlying67 rfl Tryz.sizeOf3 rfl rfl) rfl ?_))
  refine seqq (guard_true rfl rfl (o_y (l1 Tryz.isAgg3 rfl (by rfl)) rfl ?_))
  refine seqq (guard_true rfl rfl (o_y (y_eqlZ rfl rfl) rfl ?_))
  refine j_re 44 rfl (V.decT live_4) ?_
  refine seqq (o_y (y_pick_t rfl rfl) rfl ?_)
  refine seqq (o_y (y_move rfl) rfl ?_)
  refine seqq (guard_true rfl rfl (o_y (y_move rfl) rfl ?_))
  refine seqq (guard_true rfl rfl (o_y (lN Tryz.isAgg28 Tryz.sizeOf28 rfl (by rfl)) rfl ?_))
  refine seqq (guard_true rfl rfl (o_pure Tryz.call27 rfl (hdr_Hash _) rfl ?_))
  refine seqq (guard_true rfl rfl (o_pureS Tryz.call30 rfl (PureS.to (PureS.sub (relay_Confirmed x.1 (deepT sL 0 hL) (z.at x.2.bt) okx2 (hashH hL))) (by rw [hsx2])) rfl ?_))
  refine seqq (guard_true rfl rfl (o_y (y_eqlZ rfl rfl) rfl ?_))
  refine j_re 51 rfl (V.decT live_5) ?_
  refine seqq (o_y (y_pick_t rfl rfl) rfl ?_)
  refine seqq (o_y (y_move rfl) rfl ?_)
  refine seqq (guard_true rfl rfl (o_y (y_move rfl) rfl ?_))
  refine seqq (guard_true rfl rfl (o_y (y_fieldAddr Tryz.runUnderlying30 rfl Tryz.sizeOf28 rfl rfl) rfl ?_))
  refine seqq (guard_true rfl rfl (o_y (lN Tryz.isAgg28 Tryz.sizeOf28 rfl (by rfl)) rfl ?_))
  refine seqq (guard_true rfl rfl (o_pure Tryz.call27 rfl (hdr_Hash _) rfl ?_))
  refine seqq (guard_true rfl rfl (o_pureS Tryz.call30 rfl (PureS.to (PureS.sub (relay_Confirmed x.1 (deepT sL 0 hL) (z.at x.2.bt) okx2 (hashH rL.first))) (by rw [hsx2])) rfl ?_))
  refine seqq (guard_true rfl rfl (o_y (y_eqlZ rfl rfl) rfl ?_))
  refine j_re 59 rfl (V.decT live_6) ?_
  refine seqq (o_y (y_pick_t rfl rfl) rfl ?_)
  refine seqq (o_y (y_assign rfl) rfl ?_)
  refine c_nil ?_
  refine c_ret ?_
  refine c_done1 Tryz.results20 (.tmp rfl) (fun w hS => ?_)
  exact ⟨rfl, hS.none⟩
