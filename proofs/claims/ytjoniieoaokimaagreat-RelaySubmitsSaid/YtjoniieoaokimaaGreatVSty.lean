/- Walks and laws of this claim, part Sty. -/
import Derived.Test.YtjoniieoaokimaaGreatVRdp
import Derived.Test.YtjoniieoaokimaaGreatVFrk
set_option linter.unusedVariables false
set_option linter.unusedSimpArgs false
set_option linter.unusedSectionVars false
set_option autoImplicit true
set_option relaxedAutoImplicit true
set_option maxRecDepth 100000
set_option maxHeartbeats 1000000
namespace Go.Proofs
open V
/-! ### rules that set no target anew -/
def rulesS (sp : BitVec 32) (c : Int) : Rl := ⟨2016, 1#32 + sp % 1000#32, 545259519#32, 1 + ((BitVec.ofInt 64 c % 4#64).toNat : Int), firstH⟩
theorem rulesS_ok (sp : BitVec 32) (c : Int) : checkR (rulesS sp c) = 0 := by
  have h4 := umod_lt (BitVec.ofInt 64 c) 4#64 4 rfl (by decide)
  have h1 : (sp % 1000#32).toNat < 1000 := by rw [BitVec.toNat_umod]; exact Nat.mod_lt _ (by decide)
  have h2 : (1#32 + sp % 1000#32).toNat = 1 + (sp % 1000#32).toNat := by rw [BitVec.toNat_add, show (1#32).toNat = 1 from rfl, Nat.mod_eq_of_lt (by omega)]
  unfold checkR
  rw [if_neg, if_neg]
  · exact first_ok
  · show ¬ decT 545259519#32 = 0
    rw [dec_lim]; decide
  · simp only [rulesS, h2]
    have : (2147483648#32).toNat = 2147483648 := rfl
    have : (1#32).toNat = 1 := rfl
    omega
theorem first_bits : firstH.bits = bits0 := by kernel_rfl
theorem confS_pos (sp : BitVec 32) (c : Int) : 1 ≤ (rulesS sp c).confirm := by simp only [rulesS]; omega
/-- those that were confirmed, and more -/
def AllC (s : TS) (l : List H32) : Prop := ∀ x, x ∈ l → confT s x = 0
theorem allC_get {s : TS} {l : List H32} (h : AllC s l) {i : Nat} (hi : i < l.length) : confT s (l.getD i h0) = 0 := h _ (by simp [List.getD, List.getElem?_eq_getElem hi])
theorem allC_more {s : TS} {l : List H32} (h : AllC s l) {x : H32} (hx : confT s x = 0) : AllC s (l ++ [x]) := fun y hy => by
  rcases List.mem_append.1 hy with h1 | h1
  · exact h y h1
  · rw [List.mem_singleton.1 h1]; exact hx

theorem RelayStays_all (sp : BitVec 32) (c : Int) (A : Option Addr) (n cap : Nat) (Rd : List Seg) (hsl : StepsIn A n Rd) (w : World) (hw : Pts Rd w) :
    Calls Tryz.prog 6 [bv .u32 sp, vI c, .slice A n cap].toArray w (Ret fun u w' => u = .bool true ∧ Ext w w') := by
  refine beginR Tryz.func6 rfl Tryz.ntmps6 rfl hw ?_
  refine c_seq ?_
  refine c_region ?_
  refine seqq (o_y (y_assign rfl) rfl ?_)
  refine c_nil ?_
  refine c_seq ?_
  refine c_seq ?_
  refine c_region ?_
  refine seqq (o_pure Tryz.call20 rfl (law_lives) rfl ?_)
  refine seqq (o_y (y_not (b := true) rfl) rfl ?_)
  refine seqq (o_y (y_move rfl) rfl ?_)
  refine seqq (guard_true rfl rfl (o_y (y_move rfl) rfl ?_))
  refine seqq (guard_true rfl rfl (o_y (y_len (tys := #[]) Tryz.runUnderlying23 rfl) rfl ?_))
  refine seqq (guard_true rfl rfl (o_y (y_gtrZ rfl rfl) rfl ?_))
  refine seqq (o_y (y_pick_f rfl rfl) rfl ?_)
  refine c_nil ?_
  refine c_if rfl (fun h25 => ?_) (fun h25 => ?_)
  ·
    refine c_seq ?_
    refine c_region ?_
    refine seqq (o_pure Tryz.call20 rfl (law_lives) rfl ?_)
    refine seqq (o_y (y_assign rfl) rfl ?_)
    refine c_nil ?_
    refine c_ret ?_
    refine c_done1 Tryz.results6 (.tmp rfl) (fun w hS => ?_)
    exact ⟨rfl, hS.none⟩
  ·
    refine c_skip ?_
    refine c_seq ?_
    refine c_region ?_
    refine seqq (o_y (y_move rfl) rfl ?_)
    refine seqq (o_y (y_move rfl) rfl ?_)
    refine seqq (o_pure Tryz.call9 rfl (law_Rules 0 sp c) rfl ?_)
    refine seqq (o_alloc (ps := [P1 (vI 0), P1 (bv .u32 0#32), P1 (bv .u32 0#32), P1 (vI 0), P1 (bv .u32 0#32), zleaf .u8 8 32, zleaf .u8 8 32, P1 (bv .u32 0#32), P1 (bv .u32 0#32), P1 (bv .u32 0#32)]) Tryz.zeroValue30 (by kernel_rfl) rfl (fun b7 => ?_))
    refine seqq (stN Tryz.sizeOf30 rfl rfl (by rfl) rfl (by rfl) ?_)
    refine c_nil ?_
    refine c_seq ?_
    refine c_region ?_
    refine seqq (o_y (y_fieldAddr Tryz.runUnderlying30 rfl Tryz.sizeOf3 rfl rfl) rfl ?_)
    refine seqq (st1 (v := vI 2016) (h1 := rfl) Tryz.sizeOf3 rfl rfl (by rfl) (by rfl) ?_)
    refine j_obj b7 (ps' := rlP (rulesS sp c)) rfl (by rfl) ?_
    refine c_nil ?_
    refine c_seq ?_
    refine c_region ?_
    refine seqq (o_y (lN Tryz.isAgg30 Tryz.sizeOf30 rfl (by rfl)) rfl ?_)
    refine seqq (o_new5 (X := Nat × Tr) (v := fun x => .tuple #[.pointer (some ⟨x.1, 0, none⟩), vI 0]) (p := fun x => x.2.ok ∧ x.2.s = newS (rulesS sp c)) (A := fun x => [(x.1, obj 124 (reP (x.2.at x.2.bt).r x.2.bt 0))]) (B := fun x => [(x.2.bt, obj 91 (trP (x.2.at x.2.bt)))]) (C := fun x => [((x.2.at x.2.bt).bm, mObT (x.2.at x.2.bt).bs (x.2.at x.2.bt).L)]) (A' := fun x => [((x.2.at x.2.bt).bc, chOb (x.2.at x.2.bt).bs (x.2.at x.2.bt).ch (x.2.at x.2.bt).sp)]) (B' := fun x => ndSeg (x.2.at x.2.bt).bs (x.2.at x.2.bt).L) Tryz.call19 rfl rfl (fun w _ => relay_New (rulesS sp c) (rulesS_ok sp c) w) (fun x hx => ?_))
    obtain ⟨br, τ⟩ := x
    obtain ⟨hτ, hsτ⟩ := hx
    have hτ0 : τ.r = (rulesS sp c) := congrArg TS.r hsτ
    have hIτ : Inj τ.L := by rw [show τ.L = (newS (rulesS sp c)).L from congrArg TS.L hsτ]; exact inj_new _
    have hFτ : Flat τ.s 1 := by rw [show τ.s = newS (rulesS sp c) from hsτ]; exact flat_new rfl first_bits
    refine seqq (o_y (y_move rfl) rfl ?_)
    refine seqq (o_y (y_extract rfl rfl) rfl ?_)
    refine seqq (o_y (y_extract rfl rfl) rfl ?_)
    refine seqq (o_y (y_assign rfl) rfl ?_)
    refine seqq (o_y (y_assign rfl) rfl ?_)
    refine c_nil ?_
    refine c_seq ?_
    refine c_region ?_
    refine seqq (o_y (y_fieldAddr Tryz.runUnderlying30 rfl Tryz.sizeOf28 rfl rfl) rfl ?_)
    refine seqq (o_y (lN Tryz.isAgg28 Tryz.sizeOf28 rfl (by rfl)) rfl ?_)
    refine seqq (o_buildSlice (zs := [P1 (bv .u32 0#32), zleaf .u8 8 32, zleaf .u8 8 32, P1 (bv .u32 0#32), P1 (bv .u32 0#32), P1 (bv .u32 0#32)]) Tryz.runUnderlying44 Tryz.sizeOf28 Tryz.zeroValue28 (by kernel_rfl) rfl rfl (.agg rfl .nil) (by rfl) rfl (fun b38 => ?_))
    refine seqq (o_y (y_assign rfl) rfl ?_)
    refine j_obj b38 (ps' := hdP (rulesS sp c).first) rfl (by rfl) ?_
    refine j_seg (T := [(b38, obj 28 (hdP (rulesS sp c).first))]) (T' := (VG.blk b38 1 []).seg 28 (HdC [(rulesS sp c).first])) (by simp [VG.seg, rowC, obj]) ?_
    refine c_nil ?_
    refine c_seq ?_
    refine c_region ?_
    refine seqq (o_buildSlice0 Tryz.runUnderlying71 Tryz.sizeOf26 rfl (fun b39 => ?_))
    refine j_seg (T := [(b39, .cells #[] 26 (0, 0))]) (T' := [(b39, .cells (HsC [] ++ []).toArray 26 (0, 0))]) rfl ?_
    refine seqq (o_y (y_assign rfl) rfl ?_)
    refine c_nil ?_
    refine c_seq ?_
    refine c_seq ?_
    refine c_region ?_
    refine seqq (o_y (y_move rfl) rfl ?_)
    refine seqq (o_y (y_len (tys := #[]) Tryz.runUnderlying23 rfl) rfl ?_)
    refine seqq (o_y (y_move rfl) rfl ?_)
    refine c_nil ?_
    refine c_block ?_
    refine c_while (X := Tr × Int × VG × List Hd × Nat × (Nat × Nat × List Value) × List H32) [7, 8, 40, 41] [b7] rfl (fun Ek y => (10, y.2.2.1.val y.2.2.2.1.length) :: (11, .slice (some ⟨y.2.2.2.2.2.1.1, 0, none⟩) y.2.2.2.2.2.2.length y.2.2.2.2.2.1.2.1) :: (42, vI (y.2.2.2.2.1 : Int)) :: Ek) (fun Mk y => [(br, obj 124 (reP (y.1.at τ.bt).r τ.bt y.2.1))] :: [(τ.bt, obj 91 (trP (y.1.at τ.bt)))] :: [((y.1.at τ.bt).bm, mObT (y.1.at τ.bt).bs (y.1.at τ.bt).L)] :: [((y.1.at τ.bt).bc, chOb (y.1.at τ.bt).bs (y.1.at τ.bt).ch (y.1.at τ.bt).sp)] :: ndSeg (y.1.at τ.bt).bs (y.1.at τ.bt).L :: y.2.2.1.seg 28 (HdC y.2.2.2.1) :: [(y.2.2.2.2.2.1.1, .cells (HsC y.2.2.2.2.2.2 ++ y.2.2.2.2.2.1.2.2).toArray 26 (0, 0))] :: Mk) (fun y => ((y.1.at τ.bt).ok ∧ Inj (y.1.at τ.bt).L ∧ y.2.2.1.ok 68 y.2.2.2.1.length (HdC y.2.2.2.1) ∧ y.2.2.2.1.length = y.2.2.2.2.1 + 1 ∧ y.2.2.2.2.1 ≤ n) ∧ Flat (y.1.at τ.bt).s (y.2.2.2.2.1 + 1) ∧ (y.1.at τ.bt).r = (rulesS sp c) ∧ AllC (y.1.at τ.bt).s y.2.2.2.2.2.2 ∧ y.2.2.2.2.2.2.length ≤ 5000 * y.2.2.2.2.1 ∧ y.2.2.2.2.2.2.length ≤ y.2.2.2.2.2.1.2.1 ∧ (HsC y.2.2.2.2.2.2 ++ y.2.2.2.2.2.1.2.2).length = y.2.2.2.2.2.1.2.1 * 32) (fun y => n - y.2.2.2.2.1) (τ, 0, VG.blk b38 1 [], [(rulesS sp c).first], 0, (b39, 0, []), []) ⟨⟨hτ, hIτ, vg_back (by rw [rowC_len hdP_tot]) (Nat.le_refl _) (by rw [List.append_nil, rowC_len hdP_tot]; rfl), rfl, Nat.zero_le _⟩, hFτ, hτ0, (fun x hx => by cases hx), Nat.zero_le _, Nat.le_refl _, rfl⟩ ⟨rfl, rfl, rfl, rfl, rfl, rfl, rfl, trivial⟩ ?_
    intro y hy
    obtain ⟨⟨hy1, hy2, hy3, hy4, hy5⟩, hy6, hy7, hy8, hy9, hy10, hy11⟩ := hy
    refine c_seq ?_
    refine c_region ?_
    refine seqq (o_y (y_lssZ rfl rfl) rfl ?_)
    refine c_nil ?_
    refine c_seq ?_
    refine c_if rfl (fun h43 => ?_) (fun h43 => ?_)
    ·
      obtain ⟨st, b, off, lc, T, fr, hA, hmem, hst⟩ := hsl y.2.2.2.2.1 (by omega)
      subst hA
      have Ist : InS b (.cells lc.toArray T fr) Rd := ⟨hmem⟩
      have hpk := pick_lt st.ahead y.2.2.2.1.length (by omega) (by omega)
      refine j_vgN (T := 28) (cs := HdC y.2.2.2.1) 10 y.2.2.1 rfl hy3 (by omega) (fun bT capT spT hcT hsT => ?_)
      refine c_skip ?_
      refine c_seq ?_
      refine c_block ?_
      refine c_seq ?_
      refine c_region ?_
      refine seqq (o_y (y_indexAddrS Tryz.runUnderlying23 Tryz.sizeOf46 rfl rfl (by omega)) rfl ?_)
      refine seqq (o_y (l_step (off := off) y.2.2.2.2.1 rfl (by omega) hst) rfl ?_)
      refine seqq (o_alloc (ps := [P1 (vI 0), P1 (vI 0), P1 (.int .i32 0), P1 (bv .u8 0#8)]) Tryz.zeroValue46 (by kernel_rfl) rfl (fun b13 => ?_))
      refine seqq (stN Tryz.sizeOf46 rfl rfl (by rfl) rfl (by rfl) ?_)
      refine c_nil ?_
      refine c_seq ?_
      refine d_reg 16 mixed rfl ?_
      refine d_y (i := 0) (k' := 1) rfl (by kernel_rfl) (y_move rfl) rfl ?_
      refine d_y (i := 2) (k' := 5) rfl (by kernel_rfl) (y_move rfl) rfl ?_
      refine d_y (i := 3) (k' := 13) rfl (by kernel_rfl) (y_fieldAddr Tryz.runUnderlying46 rfl Tryz.sizeOf3 rfl rfl) rfl ?_
      refine d_s (i := 4) (k' := 29) rfl (by kernel_rfl) (by kernel_rfl) (l1 Tryz.isAgg3 rfl (by rfl)) hss rfl ?_
      refine d_y (i := 5) (k' := 61) rfl (by kernel_rfl) (y_convZB UK.u64 Tryz.runUnderlying3 Tryz.runUnderlying48 rfl) rfl ?_
      refine d_y (i := 6) (k' := 125) rfl (by kernel_rfl) (y_move rfl) rfl ?_
      refine d_y (i := 7) (k' := 253) rfl (by kernel_rfl) (y_len (tys := #[]) Tryz.runUnderlying44 rfl) rfl ?_
      refine d_y (i := 8) (k' := 509) rfl (by kernel_rfl) (y_convZB UK.u64 Tryz.runUnderlying3 Tryz.runUnderlying48 rfl) rfl ?_
      refine d_y (i := 9) (k' := 1021) rfl (by kernel_rfl) (y_remB rfl rfl hpk.2) rfl ?_
      refine d_y (i := 10) (k' := 2045) rfl (by kernel_rfl) (y_convBI Tryz.runUnderlying48 Tryz.runUnderlying3 rfl (by have := hpk.1; omega)) rfl ?_
      refine d_y (i := 11) (k' := 4093) rfl (by kernel_rfl) (y_indexAddrS Tryz.runUnderlying44 Tryz.sizeOf28 rfl rfl (by omega)) rfl ?_
      refine d_s (i := 12) (k' := 8189) rfl (by kernel_rfl) (by kernel_rfl) (l_row Tryz.isAgg28 Tryz.sizeOf28 hdP_tot hd0 ((BitVec.ofInt 64 st.ahead % BitVec.ofInt 64 (y.2.2.2.1.length : Int)).toNat) rfl (by omega) hpk.1) hss rfl ?_
      refine d_s (i := 13) (k' := 16381) rfl (by kernel_rfl) (by kernel_rfl) (lN Tryz.isAgg46 Tryz.sizeOf46 rfl (by rfl)) hss rfl ?_
      refine d_cS (i := 1) (k' := 16383) rfl (by kernel_rfl) (by kernel_rfl) Tryz.call22 rfl (PureS.sub (relay_Tree br y.2.1 (y.1.at τ.bt))) hss rfl ?_
      refine d_cS (i := 14) (k' := 32767) rfl (by kernel_rfl) (by kernel_rfl) Tryz.call12 rfl (PureS.sub (law_Made (y.1.at τ.bt) hy1 (pickH y.2.2.2.1 st) st)) hss rfl ?_
      refine d_e (i := 15) (k' := 65535) rfl (by kernel_rfl) (o_alloc (ps := (hdP hd0)) Tryz.zeroValue28 (by kernel_rfl) rfl (fun b14 => d_keep hss ?_))
      refine d_e (i := 16) (k' := 131071) rfl (by kernel_rfl) (stN Tryz.sizeOf28 rfl rfl (by rfl) rfl (by rfl) ( d_past rfl ?_))
      refine d_end (by kernel_rfl) ?_
      refine c_seq ?_
      refine c_region ?_
      refine seqq (o_y (y_move rfl) rfl ?_)
      refine j_seg (T := [(bT, .cells (HdC y.2.2.2.1 ++ spT).toArray 28 (0, 0))]) (T' := (VG.blk bT capT spT).seg 28 (HdC y.2.2.2.1)) rfl ?_
      refine seqq (o_y (lN Tryz.isAgg28 Tryz.sizeOf28 rfl (by rfl)) rfl ?_)
      refine seqq (o_buildSlice (zs := [P1 (bv .u32 0#32), zleaf .u8 8 32, zleaf .u8 8 32, P1 (bv .u32 0#32), P1 (bv .u32 0#32), P1 (bv .u32 0#32)]) Tryz.runUnderlying44 Tryz.sizeOf28 Tryz.zeroValue28 (by kernel_rfl) rfl rfl (.agg rfl .nil) (by rfl) rfl (fun b63 => ?_))
      refine seqq (o_appHd (a := (madeH (y.1.at τ.bt).s (pickH y.2.2.2.1 st) st)) (VG.blk bT capT spT) rfl rfl rfl rfl (vg_back (by rw [rowC_len hdP_tot]) hcT hsT) (by rfl) (by omega) rfl (fun g2 hg2 => ?_))
      refine seqq (o_y (y_assign rfl) rfl ?_)
      refine c_nil ?_
      refine c_seq ?_
      refine c_region ?_
      refine seqq (o_y (y_move rfl) rfl ?_)
      refine seqq (o_y (lN Tryz.isAgg28 Tryz.sizeOf28 rfl (by rfl)) rfl ?_)
      refine seqq (o_newsl (T := 5) (cs := By (hdB (madeH (y.1.at τ.bt).s (pickH y.2.2.2.1 st) st))) Tryz.call24 rfl rfl (fun w hw => hdr_Bytes (madeH (y.1.at τ.bt).s (pickH y.2.2.2.1 st) st) w) (fun gB hgB => ?_))
      refine seqq (o_own5 (X := Tr) (v := fun _ => .tuple #[vagg (toldP (toldT (y.1.at τ.bt).s (madeH (y.1.at τ.bt).s (pickH y.2.2.2.1 st) st))), vI ((y.1.at τ.bt).s.err (madeH (y.1.at τ.bt).s (pickH y.2.2.2.1 st) st))]) (p := fun z => (z.at τ.bt).ok ∧ (z.at τ.bt).s = (y.1.at τ.bt).s.add (madeH (y.1.at τ.bt).s (pickH y.2.2.2.1 st) st)) (relM br y.2.1 (y.1.at τ.bt)) (A := fun z => [(br, obj 124 (reP (z.at τ.bt).r τ.bt (deepT (y.1.at τ.bt).s y.2.1 (madeH (y.1.at τ.bt).s (pickH y.2.2.2.1 st) st))))]) (B := fun z => [(τ.bt, obj 91 (trP (z.at τ.bt)))]) (C := fun z => [((z.at τ.bt).bm, mObT (z.at τ.bt).bs (z.at τ.bt).L)]) (A' := fun z => [((z.at τ.bt).bc, chOb (z.at τ.bt).bs (z.at τ.bt).ch (z.at τ.bt).sp)]) (B' := fun z => ndSeg (z.at τ.bt).bs (z.at τ.bt).L) Tryz.call23 rfl rfl (fun w hw => relay_Submit br y.2.1 (y.1.at τ.bt) hy1 (madeH (y.1.at τ.bt).s (pickH y.2.2.2.1 st) st) (hdB (madeH (y.1.at τ.bt).s (pickH y.2.2.2.1 st) st)) (by rw [hdB_len]; decide) (parse_hdB (madeH (y.1.at τ.bt).s (pickH y.2.2.2.1 st) st)) (gB.val (By (hdB (madeH (y.1.at τ.bt).s (pickH y.2.2.2.1 st) st))).length) [gB.seg 5 (By (hdB (madeH (y.1.at τ.bt).s (pickH y.2.2.2.1 st) st)))] (fun w hw => by rw [by_len] at hgB ⊢; exact vg_reads (e := 5) hgB (fun p hp => hw p (by simpa using hp))) w (hw.lessR (sub_right (N := [gB.seg 5 (By (hdB (madeH (y.1.at τ.bt).s (pickH y.2.2.2.1 st) st)))])))) (fun z hz => ?_))
      obtain ⟨hz1, hz2⟩ := hz
      have hIz : Inj (z.at τ.bt).L := by rw [show (z.at τ.bt).L = ((y.1.at τ.bt).s.add (madeH (y.1.at τ.bt).s (pickH y.2.2.2.1 st) st)).L from congrArg TS.L hz2]; exact inj_add hy2 _
      have hrz : (z.at τ.bt).r = (rulesS sp c) := by rw [show (z.at τ.bt).r = ((y.1.at τ.bt).s.add (madeH (y.1.at τ.bt).s (pickH y.2.2.2.1 st) st)).r from congrArg TS.r hz2, add_r]; exact hy7
      have hFz : Flat (z.at τ.bt).s (y.2.2.2.2.1 + 1 + 1) := by rw [hz2]; exact flat_add hy6 hy1.l (by omega) _
      refine c_nil ?_
      refine c_seq ?_
      refine c_seq ?_
      refine d_reg 4 mixed rfl ?_
      refine d_y (i := 0) (k' := 1) rfl (by kernel_rfl) (y_move rfl) rfl ?_
      refine d_y (i := 2) (k' := 5) rfl (by kernel_rfl) (y_fieldAddr Tryz.runUnderlying30 rfl Tryz.sizeOf3 rfl rfl) rfl ?_
      refine d_s (i := 3) (k' := 13) rfl (by kernel_rfl) (by kernel_rfl) (l1 Tryz.isAgg3 rfl (by rfl)) hss rfl ?_
      refine d_cS (i := 1) (k' := 15) rfl (by kernel_rfl) (by kernel_rfl) Tryz.call29 rfl (PureS.sub (relay_Deepest br (deepT (y.1.at τ.bt).s y.2.1 (madeH (y.1.at τ.bt).s (pickH y.2.2.2.1 st) st)) (z.at τ.bt))) hss rfl ?_
      refine d_y (i := 4) (k' := 31) rfl (by kernel_rfl) (y_geqZ rfl rfl) rfl ?_
      refine d_end (by kernel_rfl) ?_
      refine c_if rfl (fun h73 => ?_) (fun h73 => ?_)
      ·
        refine c_seq ?_
        refine c_region ?_
        refine seqq (o_y (y_assign rfl) rfl ?_)
        refine c_nil ?_
        refine c_ret ?_
        refine c_done1 Tryz.results6 (.tmp rfl) (fun w hS => ?_)
        exact ⟨rfl, hS.none⟩
      ·
        have hsure : AllC (z.at τ.bt).s y.2.2.2.2.2.2 := fun x hx => by rw [hz2]; exact conf_stays (deep := y.2.1) hy6 hy1.l hy1.c hy2 (by rw [show (y.1.at τ.bt).s.r = (rulesS sp c) from hy7]; exact confS_pos sp c) (by rw [show (y.1.at τ.bt).s.r = (rulesS sp c) from hy7]; exact Int.not_le.1 h73) (hy8 x hx)
        refine c_skip ?_
        refine c_seq ?_
        refine c_seq ?_
        refine c_region ?_
        refine seqq (o_y (y_move rfl) rfl ?_)
        refine seqq (o_y (y_len (tys := #[]) Tryz.runUnderlying71 rfl) rfl ?_)
        refine seqq (o_y (y_move rfl) rfl ?_)
        refine c_nil ?_
        refine c_block ?_
        refine c_while (X := Nat) [7, 8, 10, 11, 40, 41, 42, 74, 75] [b7] rfl (fun Ek i => (76, vI (i : Int)) :: Ek) (fun Mk i => [(br, obj 124 (reP (z.at τ.bt).r τ.bt (deepT (y.1.at τ.bt).s y.2.1 (madeH (y.1.at τ.bt).s (pickH y.2.2.2.1 st) st))))] :: [(τ.bt, obj 91 (trP (z.at τ.bt)))] :: [((z.at τ.bt).bm, mObT (z.at τ.bt).bs (z.at τ.bt).L)] :: [((z.at τ.bt).bc, chOb (z.at τ.bt).bs (z.at τ.bt).ch (z.at τ.bt).sp)] :: ndSeg (z.at τ.bt).bs (z.at τ.bt).L :: g2.seg 28 (HdC (y.2.2.2.1 ++ [(madeH (y.1.at τ.bt).s (pickH y.2.2.2.1 st) st)])) :: [(y.2.2.2.2.2.1.1, .cells (HsC y.2.2.2.2.2.2 ++ y.2.2.2.2.2.1.2.2).toArray 26 (0, 0))] :: Mk) (fun i => i ≤ y.2.2.2.2.2.2.length) (fun i => y.2.2.2.2.2.2.length - i) 0 (Nat.zero_le _) ⟨rfl, rfl, rfl, rfl, rfl, rfl, rfl, rfl, rfl, rfl, trivial⟩ ?_
        intro i hi
        refine c_seq ?_
        refine c_region ?_
        refine seqq (o_y (y_lssZ rfl rfl) rfl ?_)
        refine c_nil ?_
        refine c_seq ?_
        refine c_if rfl (fun h77 => ?_) (fun h77 => ?_)
        ·
          refine c_skip ?_
          refine c_seq ?_
          refine c_block ?_
          refine c_seq ?_
          refine c_region ?_
          refine seqq (o_y (y_indexAddrS Tryz.runUnderlying71 Tryz.sizeOf26 rfl rfl (by omega)) rfl ?_)
          refine seqq (o_y (l_hs i rfl (by omega) (by omega)) rfl ?_)
          refine seqq (o_alloc (ps := [hP h0]) Tryz.zeroValue26 (by kernel_rfl) rfl (fun b16 => ?_))
          refine seqq (stN Tryz.sizeOf26 rfl rfl (by rfl) rfl (by rfl) ?_)
          refine c_nil ?_
          refine c_seq ?_
          refine c_region ?_
          refine seqq (o_y (y_move rfl) rfl ?_)
          refine seqq (o_y (lN Tryz.isAgg26 Tryz.sizeOf26 rfl (by rfl)) rfl ?_)
          refine seqq (o_pureS Tryz.call30 rfl (PureS.sub (relay_Confirmed br (deepT (y.1.at τ.bt).s y.2.1 (madeH (y.1.at τ.bt).s (pickH y.2.2.2.1 st) st)) (z.at τ.bt) hz1 (y.2.2.2.2.2.2.getD i h0))) rfl ?_)
          refine seqq (o_y (y_neqZ rfl rfl) rfl ?_)
          refine j_re 83 rfl (V.decNF (by rw [allC_get hsure (by omega)])) ?_
          refine c_nil ?_
          refine c_condF rfl ?_
          refine c_skip ?_
          refine c_region ?_
          refine seqq (o_y (y_addI rfl rfl (by omega)) rfl ?_)
          refine j_re 84 rfl (show _ = vI ((i + 1 : Nat) : Int) from rfl) ?_
          refine seqq (o_y (y_move rfl) rfl ?_)
          refine c_nil ?_
          exact c_next (i + 1) (by omega) (by omega) ⟨rfl, rfl, rfl, rfl, rfl, rfl, rfl, rfl, rfl, rfl, trivial⟩
        ·
          refine c_exit ?_
          refine c_seq ?_
          refine c_region ?_
          refine seqq (o_y (y_move rfl) rfl ?_)
          refine seqq (o_pureS Tryz.call22 rfl (PureS.sub (relay_Tree br (deepT (y.1.at τ.bt).s y.2.1 (madeH (y.1.at τ.bt).s (pickH y.2.2.2.1 st) st)) (z.at τ.bt))) rfl ?_)
          refine seqq (o_new1 (X := VG) (v := fun g => g.val (lineH (z.at τ.bt).s).length) (A := fun g => g.seg 26 (HsC (lineH (z.at τ.bt).s))) (p := fun g => g.ok 32 (lineH (z.at τ.bt).s).length (HsC (lineH (z.at τ.bt).s))) Tryz.call25 rfl rfl (fun w hw => law_line (z.at τ.bt) hz1 w (fun p hp => hw p (sub_right (N := treeM (z.at τ.bt)) p hp))) (fun gL hgL => ?_))
          have hll : (lineH (z.at τ.bt).s).length = (z.at τ.bt).ch.length := lineH_len (z.at τ.bt).s
          have hcne := hz1.c.ne
          have hcl := ch_le hz1.l hz1.c
          have hbig := hz1.l.big
          refine j_vgN (T := 26) (cs := HsC (lineH (z.at τ.bt).s)) 87 gL rfl hgL (by omega) (fun bL capL spL hcL hsL => ?_)
          refine seqq (o_y (y_len (tys := #[]) Tryz.runUnderlying71 rfl) rfl ?_)
          refine seqq (o_y (y_move rfl) rfl ?_)
          refine c_nil ?_
          refine c_block ?_
          refine c_while (X := Nat × (Nat × Nat × List Value) × List H32) [7, 8, 10, 40, 41, 42, 87, 88] [b7, bL] rfl (fun Ek v => (11, .slice (some ⟨v.2.1.1, 0, none⟩) v.2.2.length v.2.1.2.1) :: (89, vI (v.1 : Int)) :: Ek) (fun Mk v => [(br, obj 124 (reP (z.at τ.bt).r τ.bt (deepT (y.1.at τ.bt).s y.2.1 (madeH (y.1.at τ.bt).s (pickH y.2.2.2.1 st) st))))] :: [(τ.bt, obj 91 (trP (z.at τ.bt)))] :: [((z.at τ.bt).bm, mObT (z.at τ.bt).bs (z.at τ.bt).L)] :: [((z.at τ.bt).bc, chOb (z.at τ.bt).bs (z.at τ.bt).ch (z.at τ.bt).sp)] :: ndSeg (z.at τ.bt).bs (z.at τ.bt).L :: g2.seg 28 (HdC (y.2.2.2.1 ++ [(madeH (y.1.at τ.bt).s (pickH y.2.2.2.1 st) st)])) :: [(v.2.1.1, .cells (HsC v.2.2 ++ v.2.1.2.2).toArray 26 (0, 0))] :: Mk) (fun v => v.1 ≤ (lineH (z.at τ.bt).s).length ∧ v.2.2.length ≤ 5000 * y.2.2.2.2.1 + v.1 ∧ v.2.2.length ≤ v.2.1.2.1 ∧ (HsC v.2.2 ++ v.2.1.2.2).length = v.2.1.2.1 * 32 ∧ AllC (z.at τ.bt).s v.2.2) (fun v => (lineH (z.at τ.bt).s).length - v.1) (0, y.2.2.2.2.2.1, y.2.2.2.2.2.2) ⟨Nat.zero_le _, by dsimp only; omega, hy10, hy11, hsure⟩ ⟨rfl, rfl, rfl, rfl, rfl, rfl, rfl, rfl, rfl, rfl, trivial⟩ ?_
          intro v hv
          obtain ⟨hv1, hv2, hv3, hv4, hv5⟩ := hv
          refine c_seq ?_
          refine c_region ?_
          refine seqq (o_y (y_lssZ rfl rfl) rfl ?_)
          refine c_nil ?_
          refine c_seq ?_
          refine c_if rfl (fun h90 => ?_) (fun h90 => ?_)
          ·
            refine c_skip ?_
            refine c_seq ?_
            refine c_block ?_
            refine c_seq ?_
            refine c_region ?_
            refine seqq (o_y (y_indexAddrS Tryz.runUnderlying71 Tryz.sizeOf26 rfl rfl (by omega)) rfl ?_)
            refine seqq (o_y (l_hs v.1 rfl (by omega) (by omega)) rfl ?_)
            refine seqq (o_alloc (ps := [hP h0]) Tryz.zeroValue26 (by kernel_rfl) rfl (fun b18 => ?_))
            refine seqq (stN Tryz.sizeOf26 rfl rfl (by rfl) rfl (by rfl) ?_)
            refine c_nil ?_
            refine c_seq ?_
            refine c_region ?_
            refine seqq (o_y (y_move rfl) rfl ?_)
            refine seqq (o_y (lN Tryz.isAgg26 Tryz.sizeOf26 rfl (by rfl)) rfl ?_)
            refine seqq (o_pureS Tryz.call30 rfl (PureS.sub (relay_Confirmed br (deepT (y.1.at τ.bt).s y.2.1 (madeH (y.1.at τ.bt).s (pickH y.2.2.2.1 st) st)) (z.at τ.bt) hz1 ((lineH (z.at τ.bt).s).getD v.1 h0))) rfl ?_)
            refine seqq (o_y (y_eqlZ rfl rfl) rfl ?_)
            refine seqq (o_y (y_move rfl) rfl ?_)
            refine j_if 97 rfl (fun h97 => ?_) (fun h97 => ?_)
            ·
              refine seqq (guard_true rfl rfl (o_y (y_move rfl) rfl ?_))
              refine seqq (guard_true rfl rfl (o_y (lN Tryz.isAgg26 Tryz.sizeOf26 rfl (by rfl)) rfl ?_))
              refine seqq (guard_true rfl rfl (o_pureS Tryz.call28 rfl (PureS.sub (law_in_blk v.2.1.1 v.2.1.2.1 v.2.2 v.2.1.2.2 ((lineH (z.at τ.bt).s).getD v.1 h0) (by omega))) rfl ?_))
              refine seqq (guard_true rfl rfl (o_y (y_not rfl) rfl ?_))
              refine seqq (o_y (y_pick_t rfl rfl) rfl ?_)
              refine c_nil ?_
              refine c_ifn rfl (fun h102 => ?_) (fun h102 => ?_)
              ·
                refine c_region ?_
                refine seqq (o_y (y_move rfl) rfl ?_)
                refine seqq (o_y (lN Tryz.isAgg26 Tryz.sizeOf26 rfl (by rfl)) rfl ?_)
                refine seqq (o_buildSlice (zs := [zleaf .u8 8 32]) Tryz.runUnderlying71 Tryz.sizeOf26 Tryz.zeroValue26 (by kernel_rfl) rfl rfl (.agg rfl .nil) (by rfl) rfl (fun b105 => ?_))
                refine j_seg (T := [(v.2.1.1, .cells (HsC v.2.2 ++ v.2.1.2.2).toArray 26 (0, 0))]) (T' := (VG.blk v.2.1.1 v.2.1.2.1 v.2.1.2.2).seg 26 (HsC v.2.2)) rfl ?_
                refine seqq (o_appH (h := (lineH (z.at τ.bt).s).getD v.1 h0) (VG.blk v.2.1.1 v.2.1.2.1 v.2.1.2.2) rfl rfl rfl rfl (vg_back (hsC_len _) hv3 hv4) (by rfl) (by omega) rfl (fun g3 hg3 => ?_))
                refine j_vgN (T := 26) (cs := HsC (v.2.2 ++ [(lineH (z.at τ.bt).s).getD v.1 h0])) 106 g3 rfl hg3 (by simp) (fun bU capU spU hcU hsU => ?_)
                refine seqq (o_y (y_assign rfl) rfl ?_)
                refine c_nil ?_
                refine c_region ?_
                refine seqq (o_y (y_addI rfl rfl (by omega)) rfl ?_)
                refine j_re 107 rfl (show _ = vI ((v.1 + 1 : Nat) : Int) from rfl) ?_
                refine seqq (o_y (y_move rfl) rfl ?_)
                refine c_nil ?_
                exact c_next (v.1 + 1, (bU, capU, spU), v.2.2 ++ [(lineH (z.at τ.bt).s).getD v.1 h0]) ⟨by dsimp only; omega, by simp; omega, hcU, hsU, allC_more hv5 h97⟩ (by dsimp only; omega) ⟨rfl, rfl, rfl, rfl, rfl, rfl, rfl, rfl, rfl, rfl, trivial⟩
              ·
                refine c_skip ?_
                refine c_region ?_
                refine seqq (o_y (y_addI rfl rfl (by omega)) rfl ?_)
                refine j_re 107 rfl (show _ = vI ((v.1 + 1 : Nat) : Int) from rfl) ?_
                refine seqq (o_y (y_move rfl) rfl ?_)
                refine c_nil ?_
                exact c_next (v.1 + 1, v.2.1, v.2.2) ⟨by dsimp only; omega, by dsimp only; omega, hv3, hv4, hv5⟩ (by dsimp only; omega) ⟨rfl, rfl, rfl, rfl, rfl, rfl, rfl, rfl, rfl, rfl, trivial⟩
            ·
              refine seqq (guard_false (c := false) rfl rfl rfl rfl ?_)
              refine seqq (guard_false (c := false) rfl rfl rfl rfl ?_)
              refine seqq (guard_false (c := false) rfl rfl rfl rfl ?_)
              refine seqq (guard_false (c := false) rfl rfl rfl rfl ?_)
              refine seqq (o_y (y_pick_f rfl rfl) rfl ?_)
              refine c_nil ?_
              refine c_condF rfl ?_
              refine c_skip ?_
              refine c_region ?_
              refine seqq (o_y (y_addI rfl rfl (by omega)) rfl ?_)
              refine j_re 107 rfl (show _ = vI ((v.1 + 1 : Nat) : Int) from rfl) ?_
              refine seqq (o_y (y_move rfl) rfl ?_)
              refine c_nil ?_
              exact c_next (v.1 + 1, v.2.1, v.2.2) ⟨by dsimp only; omega, by dsimp only; omega, hv3, hv4, hv5⟩ (by dsimp only; omega) ⟨rfl, rfl, rfl, rfl, rfl, rfl, rfl, rfl, rfl, rfl, trivial⟩
          ·
            refine c_exit ?_
            refine c_region ?_
            refine seqq (o_y (y_addI rfl rfl (by omega)) rfl ?_)
            refine j_re 108 rfl (show _ = vI ((y.2.2.2.2.1 + 1 : Nat) : Int) from rfl) ?_
            refine seqq (o_y (y_move rfl) rfl ?_)
            refine c_nil ?_
            exact c_next (z, (deepT (y.1.at τ.bt).s y.2.1 (madeH (y.1.at τ.bt).s (pickH y.2.2.2.1 st) st)), g2, y.2.2.2.1 ++ [(madeH (y.1.at τ.bt).s (pickH y.2.2.2.1 st) st)], y.2.2.2.2.1 + 1, v.2.1, v.2.2) ⟨⟨hz1, hIz, hg2, by simp [hy4], by dsimp only; omega⟩, hFz, hrz, hv5, by dsimp only; omega, hv3, hv4⟩ (by dsimp only; omega) ⟨rfl, rfl, rfl, rfl, rfl, rfl, rfl, trivial⟩
    ·
      refine c_exit ?_
      refine c_seq ?_
      refine c_region ?_
      refine seqq (o_y (y_assign rfl) rfl ?_)
      refine c_nil ?_
      refine c_ret ?_
      refine c_done1 Tryz.results6 (.tmp rfl) (fun w hS => ?_)
      exact ⟨rfl, hS.none⟩
