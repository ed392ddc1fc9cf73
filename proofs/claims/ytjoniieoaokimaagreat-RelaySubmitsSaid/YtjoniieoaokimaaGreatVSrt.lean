/- Walks and laws of this claim, part Srt. -/
import Derived.Test.YtjoniieoaokimaaGreatVAdj
set_option linter.unusedVariables false
set_option linter.unusedSimpArgs false
set_option linter.unusedSectionVars false
set_option autoImplicit true
set_option relaxedAutoImplicit true
set_option maxRecDepth 100000
set_option maxHeartbeats 1000000
namespace Go.Proofs
open V
/-! ### sorting few words -/
def sinkW (l : List (BitVec 32)) : Nat → List (BitVec 32)
  | 0 => l
  | j + 1 => if (l.getD (j + 1) 0#32).toNat < (l.getD j 0#32).toNat then sinkW ((l.set (j + 1) (l.getD j 0#32)).set j (l.getD (j + 1) 0#32)) j else l
def isortW (l : List (BitVec 32)) : Nat → List (BitVec 32)
  | 0 => l
  | i + 1 => sinkW (isortW l i) (i + 1)
theorem sink_stop (l : List (BitVec 32)) (j : Nat) (h : ¬ (l.getD j 0#32).toNat < (l.getD (j - 1) 0#32).toNat) : sinkW l j = l := by
  cases j with
  | zero => rfl
  | succ j => rw [sinkW, if_neg (by simpa using h)]
theorem sink_go (l : List (BitVec 32)) (j : Nat) (h0 : 0 < j) (h : (l.getD j 0#32).toNat < (l.getD (j - 1) 0#32).toNat) : sinkW l j = sinkW ((l.set j (l.getD (j - 1) 0#32)).set (j - 1) (l.getD j 0#32)) (j - 1) := by
  cases j with
  | zero => omega
  | succ j => rw [sinkW, if_pos (by simpa using h)]; rfl
theorem sinkW_len : ∀ (j : Nat) (l : List (BitVec 32)), (sinkW l j).length = l.length
  | 0, _ => rfl
  | j + 1, l => by unfold sinkW; split <;> simp [sinkW_len j]
theorem isortW_len (l : List (BitVec 32)) : ∀ i, (isortW l i).length = l.length
  | 0 => rfl
  | i + 1 => by rw [isortW, sinkW_len, isortW_len l i]

theorem cmp_isNaN (x : BitVec 32) : Pure Tryz.prog 160 [bv .u32 x] (.bool false) := by
  intro w
  refine begin0 Tryz.func160 rfl Tryz.ntmps160 rfl ?_
  refine c_seq ?_
  refine c_region ?_
  refine seqq (o_y (y_assign rfl) rfl ?_)
  refine c_nil ?_
  refine c_seq ?_
  refine c_region ?_
  refine seqq (o_y (y_move rfl) rfl ?_)
  refine seqq (o_y (y_move rfl) rfl ?_)
  refine seqq (o_y (y_neqB rfl rfl) rfl ?_)
  refine j_re 5 rfl (V.decNF rfl) ?_
  refine seqq (o_y (y_assign rfl) rfl ?_)
  refine c_nil ?_
  refine c_ret ?_
  refine c_done1 Tryz.results160 (.tmp rfl) (fun w hS => ?_)
  exact ⟨rfl, hS.none⟩

theorem cmp_Less (x y : BitVec 32) : Pure Tryz.prog 151 [bv .u32 x, bv .u32 y] (.bool (decide (x.toNat < y.toNat))) := by
  intro w
  refine begin0 Tryz.func151 rfl Tryz.ntmps151 rfl ?_
  refine c_seq ?_
  refine c_region ?_
  refine seqq (o_y (y_assign rfl) rfl ?_)
  refine c_nil ?_
  refine c_seq ?_
  refine c_region ?_
  refine seqq (o_y (y_move rfl) rfl ?_)
  refine seqq (o_pure Tryz.call160 rfl (cmp_isNaN _) rfl ?_)
  refine seqq (o_y (y_move rfl) rfl ?_)
  refine seqq (guard_false (c := false) rfl rfl rfl rfl ?_)
  refine seqq (guard_false (c := false) rfl rfl rfl rfl ?_)
  refine seqq (guard_false (c := false) rfl rfl rfl rfl ?_)
  refine seqq (o_y (y_pick_f rfl rfl) rfl ?_)
  refine seqq (o_y (y_move rfl) rfl ?_)
  refine seqq (guard_true rfl rfl (o_y (y_move rfl) rfl ?_))
  refine seqq (guard_true rfl rfl (o_y (y_move rfl) rfl ?_))
  refine seqq (guard_true rfl rfl (o_y (y_lssB rfl rfl) rfl ?_))
  refine seqq (o_y (y_pick_f rfl rfl) rfl ?_)
  refine seqq (o_y (y_assign rfl) rfl ?_)
  refine c_nil ?_
  refine c_ret ?_
  refine c_done1 Tryz.results151 (.tmp rfl) (fun w hS => ?_)
  exact ⟨rfl, hS.none⟩

theorem srt_insertion (b cap : Nat) (l : List (BitVec 32)) (sp : List Value) (hl : 1 ≤ l.length) (hb : l.length ≤ 1073741824) (w : World) (hSt : St w (dom [[(b, .cells (Wd (l) ++ sp).toArray 22 (0, 0))]]) [] [[(b, .cells (Wd (l) ++ sp).toArray 22 (0, 0))]] w) :
    Calls Tryz.prog 145 [.slice (some ⟨b, 0, none⟩) l.length cap, vI 0, vI (l.length : Int)].toArray w (Ret fun u w' => u = .tuple #[] ∧ St w (dom [[(b, .cells (Wd (l) ++ sp).toArray 22 (0, 0))]]) [] [[(b, .cells (Wd (isortW l (l.length - 1)) ++ sp).toArray 22 (0, 0))]] w') := by
  refine begin_ Tryz.func145 rfl Tryz.ntmps145 rfl hSt ?_
  refine c_seq ?_
  refine c_region ?_
  refine seqq (o_y (y_move rfl) rfl ?_)
  refine seqq (o_y (y_addI rfl rfl (by omega)) rfl ?_)
  refine seqq (o_y (y_assign rfl) rfl ?_)
  refine j_re 6 rfl (show _ = vI (((0 : Nat) : Int) + 1) from rfl) ?_
  refine j_seg (T := [(b, .cells (Wd (l) ++ sp).toArray 22 (0, 0))]) (T' := [(b, .cells (Wd (isortW l 0) ++ sp).toArray 22 (0, 0))]) rfl ?_
  refine c_nil ?_
  refine c_block ?_
  refine c_while (X := Nat) [0, 1, 2] [] rfl (fun Ek i => (6, vI ((i : Int) + 1)) :: Ek) (fun Mk i => [(b, .cells (Wd (isortW l i) ++ sp).toArray 22 (0, 0))] :: Mk) (fun i => i + 1 ≤ l.length) (fun i => l.length - i) 0 hl ⟨rfl, rfl, rfl, rfl, trivial⟩ ?_
  intro i hi
  refine c_seq ?_
  refine c_seq ?_
  refine c_region ?_
  refine seqq (o_y (y_move rfl) rfl ?_)
  refine seqq (o_y (y_move rfl) rfl ?_)
  refine seqq (o_y (y_lssZ rfl rfl) rfl ?_)
  refine c_nil ?_
  refine c_if rfl (fun h12 => ?_) (fun h12 => ?_)
  ·
    refine c_skip ?_
    refine c_seq ?_
    refine c_block ?_
    refine c_seq ?_
    refine c_region ?_
    refine seqq (o_y (y_move rfl) rfl ?_)
    refine seqq (o_y (y_assign rfl) rfl ?_)
    refine c_nil ?_
    refine c_block ?_
    refine c_while (X := Nat × List (BitVec 32)) [0, 1, 2, 6] [] rfl (fun Ek y => (7, vI (y.1 : Int)) :: Ek) (fun Mk y => [(b, .cells (Wd (y.2) ++ sp).toArray 22 (0, 0))] :: Mk) (fun y => y.1 < l.length ∧ y.2.length = l.length ∧ sinkW y.2 y.1 = isortW l (i + 1)) (fun y => y.1) (i + 1, isortW l i) ⟨by dsimp only; omega, isortW_len _ _, rfl⟩ ⟨rfl, rfl, rfl, rfl, rfl, trivial⟩ ?_
    intro y hy
    obtain ⟨hy1, hy2, hy3⟩ := hy
    refine c_seq ?_
    refine c_seq ?_
    refine d_reg 15 mixed rfl ?_
    refine d_y (i := 0) (k' := 1) rfl (by kernel_rfl) (y_move rfl) rfl ?_
    refine d_y (i := 1) (k' := 3) rfl (by kernel_rfl) (y_move rfl) rfl ?_
    refine d_y (i := 2) (k' := 7) rfl (by kernel_rfl) (y_gtrZ rfl rfl) rfl ?_
    refine d_y (i := 3) (k' := 15) rfl (by kernel_rfl) (y_move rfl) rfl ?_
    refine j_if 19 rfl (fun h19 => ?_) (fun h19 => ?_)
    ·
      refine d_gy (i := 4) (k' := 31) rfl (by kernel_rfl) rfl rfl (y_move rfl) rfl ?_
      refine d_gy (i := 5) (k' := 63) rfl (by kernel_rfl) rfl rfl (y_move rfl) rfl ?_
      refine d_gy (i := 6) (k' := 127) rfl (by kernel_rfl) rfl rfl (y_indexAddrS Tryz.runUnderlying152 Tryz.sizeOf22 rfl rfl (by omega)) rfl ?_
      refine d_gs (i := 7) (k' := 255) rfl (by kernel_rfl) rfl rfl (by kernel_rfl) (lC Tryz.isAgg22 y.1 rfl (by omega) (wd_get (by omega))) hss rfl ?_
      refine d_gy (i := 8) (k' := 511) rfl (by kernel_rfl) rfl rfl (y_move rfl) rfl ?_
      refine d_gy (i := 9) (k' := 1023) rfl (by kernel_rfl) rfl rfl (y_move rfl) rfl ?_
      refine d_gy (i := 10) (k' := 2047) rfl (by kernel_rfl) rfl rfl (y_subI rfl rfl (by omega)) rfl ?_
      refine d_gy (i := 11) (k' := 4095) rfl (by kernel_rfl) rfl rfl (y_indexAddrS Tryz.runUnderlying152 Tryz.sizeOf22 rfl rfl (by omega)) rfl ?_
      refine d_gs (i := 12) (k' := 8191) rfl (by kernel_rfl) rfl rfl (by kernel_rfl) (lC Tryz.isAgg22 (y.1 - 1) rfl (by omega) (wd_get (by omega))) hss rfl ?_
      refine d_gc (i := 13) (k' := 16383) rfl (by kernel_rfl) rfl rfl Tryz.call151 rfl (cmp_Less _ _) rfl ?_
      refine d_y (i := 14) (k' := 32767) rfl (by kernel_rfl) (y_pick_t rfl rfl) rfl ?_
      refine d_end (by kernel_rfl) ?_
      refine c_if rfl (fun h30 => ?_) (fun h30 => ?_)
      ·
        refine c_skip ?_
        refine c_seq ?_
        refine c_block ?_
        refine d_reg 14 mixed rfl ?_
        refine d_y (i := 0) (k' := 1) rfl (by kernel_rfl) (y_move rfl) rfl ?_
        refine d_y (i := 1) (k' := 3) rfl (by kernel_rfl) (y_move rfl) rfl ?_
        refine d_y (i := 2) (k' := 7) rfl (by kernel_rfl) (y_move rfl) rfl ?_
        refine d_y (i := 3) (k' := 15) rfl (by kernel_rfl) (y_move rfl) rfl ?_
        refine d_y (i := 4) (k' := 31) rfl (by kernel_rfl) (y_subI rfl rfl (by omega)) rfl ?_
        refine d_y (i := 5) (k' := 63) rfl (by kernel_rfl) (y_move rfl) rfl ?_
        refine d_y (i := 6) (k' := 127) rfl (by kernel_rfl) (y_move rfl) rfl ?_
        refine d_y (i := 7) (k' := 255) rfl (by kernel_rfl) (y_subI rfl rfl (by omega)) rfl ?_
        refine d_y (i := 8) (k' := 511) rfl (by kernel_rfl) (y_indexAddrS Tryz.runUnderlying152 Tryz.sizeOf22 rfl rfl (by omega)) rfl ?_
        refine d_s (i := 9) (k' := 1023) rfl (by kernel_rfl) (by kernel_rfl) (lC Tryz.isAgg22 (y.1 - 1) rfl (by omega) (wd_get (by omega))) hss rfl ?_
        refine d_y (i := 10) (k' := 2047) rfl (by kernel_rfl) (y_move rfl) rfl ?_
        refine d_y (i := 11) (k' := 4095) rfl (by kernel_rfl) (y_move rfl) rfl ?_
        refine d_y (i := 12) (k' := 8191) rfl (by kernel_rfl) (y_indexAddrS Tryz.runUnderlying152 Tryz.sizeOf22 rfl rfl (by omega)) rfl ?_
        refine d_s (i := 13) (k' := 16383) rfl (by kernel_rfl) (by kernel_rfl) (lC Tryz.isAgg22 y.1 rfl (by omega) (wd_get (by omega))) hss rfl ?_
        refine d_y (i := 14) (k' := 32767) rfl (by kernel_rfl) (y_indexAddrS Tryz.runUnderlying152 Tryz.sizeOf22 rfl rfl (by omega)) rfl ?_
        refine d_e (i := 15) (k' := 65535) rfl (by kernel_rfl) (o_storeW Tryz.sizeOf22 y.1 rfl rfl (by omega) (by omega) (by rfl) ( d_past rfl ?_))
        refine d_y (i := 16) (k' := 131071) rfl (by kernel_rfl) (y_indexAddrS Tryz.runUnderlying152 Tryz.sizeOf22 rfl rfl (by omega)) rfl ?_
        refine d_e (i := 17) (k' := 262143) rfl (by kernel_rfl) (o_storeW Tryz.sizeOf22 (y.1 - 1) rfl rfl (by omega) (by rw [List.length_set]; omega) (by rfl) ( d_past rfl ?_))
        refine d_end (by kernel_rfl) ?_
        refine c_region ?_
        refine seqq (o_y (y_move rfl) rfl ?_)
        refine seqq (o_y (y_subI rfl rfl (by omega)) rfl ?_)
        refine j_re 32 rfl (show vI ((y.1 : Int) - 1) = vI ((y.1 - 1 : Nat) : Int) from by congr 1; omega) ?_
        refine seqq (o_y (y_assign rfl) rfl ?_)
        refine c_nil ?_
        exact c_next (y.1 - 1, (y.2.set y.1 (y.2.getD (y.1 - 1) 0#32)).set (y.1 - 1) (y.2.getD y.1 0#32)) ⟨by dsimp only; omega, by simp [hy2], (sink_go y.2 y.1 (by omega) h30).symm.trans hy3⟩ (by dsimp only; omega) ⟨rfl, rfl, rfl, rfl, rfl, trivial⟩
      ·
        refine c_exit ?_
        refine c_region ?_
        refine seqq (o_y (y_move rfl) rfl ?_)
        refine seqq (o_y (y_addI rfl rfl (by omega)) rfl ?_)
        refine seqq (o_y (y_assign rfl) rfl ?_)
        refine c_nil ?_
        refine j_seg (T := [(b, .cells (Wd (y.2) ++ sp).toArray 22 (0, 0))]) (T' := [(b, .cells (Wd (isortW l (i + 1)) ++ sp).toArray 22 (0, 0))]) (by rw [← hy3, sink_stop _ _ h30]) ?_
        exact c_next (i + 1) (by omega) (by omega) ⟨rfl, rfl, rfl, rfl, trivial⟩
    ·
      refine d_n (i := 4) (k' := 31) (c := false) rfl (by kernel_rfl) rfl rfl rfl rfl ?_
      refine d_n (i := 5) (k' := 63) (c := false) rfl (by kernel_rfl) rfl rfl rfl rfl ?_
      refine d_n (i := 6) (k' := 127) (c := false) rfl (by kernel_rfl) rfl rfl rfl rfl ?_
      refine d_n (i := 7) (k' := 255) (c := false) rfl (by kernel_rfl) rfl rfl rfl rfl ?_
      refine d_n (i := 8) (k' := 511) (c := false) rfl (by kernel_rfl) rfl rfl rfl rfl ?_
      refine d_n (i := 9) (k' := 1023) (c := false) rfl (by kernel_rfl) rfl rfl rfl rfl ?_
      refine d_n (i := 10) (k' := 2047) (c := false) rfl (by kernel_rfl) rfl rfl rfl rfl ?_
      refine d_n (i := 11) (k' := 4095) (c := false) rfl (by kernel_rfl) rfl rfl rfl rfl ?_
      refine d_n (i := 12) (k' := 8191) (c := false) rfl (by kernel_rfl) rfl rfl rfl rfl ?_
      refine d_n (i := 13) (k' := 16383) (c := false) rfl (by kernel_rfl) rfl rfl rfl rfl ?_
      refine d_y (i := 14) (k' := 32767) rfl (by kernel_rfl) (y_pick_f rfl rfl) rfl ?_
      refine d_end (by kernel_rfl) ?_
      refine c_condF rfl ?_
      refine c_exit ?_
      refine c_region ?_
      refine seqq (o_y (y_move rfl) rfl ?_)
      refine seqq (o_y (y_addI rfl rfl (by omega)) rfl ?_)
      refine seqq (o_y (y_assign rfl) rfl ?_)
      refine c_nil ?_
      refine j_seg (T := [(b, .cells (Wd (y.2) ++ sp).toArray 22 (0, 0))]) (T' := [(b, .cells (Wd (isortW l (i + 1)) ++ sp).toArray 22 (0, 0))]) (by rw [← hy3, show y.1 = 0 from by omega, sinkW]) ?_
      exact c_next (i + 1) (by omega) (by omega) ⟨rfl, rfl, rfl, rfl, trivial⟩
  ·
    obtain rfl : i = l.length - 1 := by omega
    refine c_exit ?_
    refine c_end ?_
    refine c_done0 Tryz.results145  (fun w hS => ?_)
    exact ⟨rfl, hS.fin (N := [[(b, .cells (Wd (isortW l (l.length - 1)) ++ sp).toArray 22 (0, 0))]])⟩

theorem srt_pdq (b cap : Nat) (l : List (BitVec 32)) (sp : List Value) (k : Int) (hl : 1 ≤ l.length) (hb : l.length ≤ 12) (w : World) (hSt : St w (dom [[(b, .cells (Wd (l) ++ sp).toArray 22 (0, 0))]]) [] [[(b, .cells (Wd (l) ++ sp).toArray 22 (0, 0))]] w) :
    Calls Tryz.prog 143 [.slice (some ⟨b, 0, none⟩) l.length cap, vI 0, vI (l.length : Int), vI k].toArray w (Ret fun u w' => u = .tuple #[] ∧ St w (dom [[(b, .cells (Wd (l) ++ sp).toArray 22 (0, 0))]]) [] [[(b, .cells (Wd (isortW l (l.length - 1)) ++ sp).toArray 22 (0, 0))]] w') := by
  refine begin_ Tryz.func143 rfl Tryz.ntmps143 rfl hSt ?_
  refine c_seq ?_
  refine c_region ?_
  refine seqq (o_y (y_assign rfl) rfl ?_)
  refine c_nil ?_
  refine c_seq ?_
  refine c_region ?_
  refine seqq (o_y (y_assign rfl) rfl ?_)
  refine c_nil ?_
  refine c_block ?_
  refine c_loop 1 ?_
  refine c_round ?_
  refine c_block ?_
  refine c_seq ?_
  refine c_region ?_
  refine seqq (o_y (y_move rfl) rfl ?_)
  refine seqq (o_y (y_move rfl) rfl ?_)
  refine seqq (o_y (y_subI rfl rfl (by omega)) rfl ?_)
  refine seqq (o_y (y_assign rfl) rfl ?_)
  refine c_nil ?_
  refine c_seq ?_
  refine c_seq ?_
  refine c_region ?_
  refine seqq (o_y (y_move rfl) rfl ?_)
  refine seqq (o_y (y_leqZ rfl rfl) rfl ?_)
  refine j_re 23 rfl (V.decT (by omega)) ?_
  refine c_nil ?_
  refine c_condT rfl ?_
  refine c_seq ?_
  refine c_region ?_
  refine seqq (o_y (y_move rfl) rfl ?_)
  refine seqq (o_y (y_move rfl) rfl ?_)
  refine seqq (o_y (y_move rfl) rfl ?_)
  refine seqq (o_own1 (X := Unit) (v := fun _ => .tuple #[]) (p := fun _ => True) [[(b, .cells (Wd (l) ++ sp).toArray 22 (0, 0))]] (A := fun _ => [(b, .cells (Wd (isortW l (l.length - 1)) ++ sp).toArray 22 (0, 0))]) Tryz.call145 rfl rfl (fun w hw => (srt_insertion b cap l sp hl (by omega) w hw.noR).mono (fun e w2 h => by obtain ⟨v, h1, h2, h3⟩ := h; exact ⟨v, h1, (), trivial, h2, h3⟩)) (fun _ _ => ?_))
  refine c_nil ?_
  refine c_ret ?_
  refine c_done0 Tryz.results143  (fun w hS => ?_)
  exact ⟨rfl, hS.fin (N := [[(b, .cells (Wd (isortW l (l.length - 1)) ++ sp).toArray 22 (0, 0))]])⟩

theorem bits_LenP (x : BitVec 64) : Pure Tryz.prog 144 [bv .u64 x] (vI (Lib.bitLen x.toNat)) := by
  refine pure_of fun w => (Tryz.bits_Len (x.toNat : Int) w (by omega) (by have := x.isLt; omega)).mono ?_
  rintro e w' ⟨h1, h2⟩; exact ⟨by simpa using h1, h2⟩

theorem srt_Sort (b cap : Nat) (l : List (BitVec 32)) (sp : List Value) (hl : 1 ≤ l.length) (hb : l.length ≤ 12) (w : World) (hSt : St w (dom [[(b, .cells (Wd (l) ++ sp).toArray 22 (0, 0))]]) [] [[(b, .cells (Wd (l) ++ sp).toArray 22 (0, 0))]] w) :
    Calls Tryz.prog 136 [.slice (some ⟨b, 0, none⟩) l.length cap].toArray w (Ret fun u w' => u = .tuple #[] ∧ St w (dom [[(b, .cells (Wd (l) ++ sp).toArray 22 (0, 0))]]) [] [[(b, .cells (Wd (isortW l (l.length - 1)) ++ sp).toArray 22 (0, 0))]] w') := by
  refine begin_ Tryz.func136 rfl Tryz.ntmps136 rfl hSt ?_
  refine c_seq ?_
  refine c_region ?_
  refine seqq (o_y (y_move rfl) rfl ?_)
  refine seqq (o_y (y_len (tys := #[]) Tryz.runUnderlying152 rfl) rfl ?_)
  refine seqq (o_y (y_assign rfl) rfl ?_)
  refine c_nil ?_
  refine c_region ?_
  refine seqq (o_y (y_move rfl) rfl ?_)
  refine seqq (o_y (y_move rfl) rfl ?_)
  refine seqq (o_y (y_move rfl) rfl ?_)
  refine seqq (o_y (y_convZB UK.u64 Tryz.runUnderlying3 Tryz.runUnderlying48 rfl) rfl ?_)
  refine seqq (o_pure Tryz.call144 rfl (bits_LenP _) rfl ?_)
  refine seqq (o_own1 (X := Unit) (v := fun _ => .tuple #[]) (p := fun _ => True) [[(b, .cells (Wd (l) ++ sp).toArray 22 (0, 0))]] (A := fun _ => [(b, .cells (Wd (isortW l (l.length - 1)) ++ sp).toArray 22 (0, 0))]) Tryz.call143 rfl rfl (fun w hw => (srt_pdq b cap l sp _ hl hb w hw.noR).mono (fun e w2 h => by obtain ⟨v, h1, h2, h3⟩ := h; exact ⟨v, h1, (), trivial, h2, h3⟩)) (fun _ _ => ?_))
  refine c_nil ?_
  refine c_end ?_
  refine c_done0 Tryz.results136  (fun w hS => ?_)
  exact ⟨rfl, hS.fin (N := [[(b, .cells (Wd (isortW l (l.length - 1)) ++ sp).toArray 22 (0, 0))]])⟩
