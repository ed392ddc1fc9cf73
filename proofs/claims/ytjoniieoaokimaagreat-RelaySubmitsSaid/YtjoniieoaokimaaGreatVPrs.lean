/- Walks and laws of this claim, part Prs. -/
import Derived.Test.YtjoniieoaokimaaGreatVHdr
set_option linter.unusedVariables false
set_option linter.unusedSimpArgs false
set_option linter.unusedSectionVars false
set_option autoImplicit true
set_option relaxedAutoImplicit true
set_option maxRecDepth 100000
set_option maxHeartbeats 1000000
namespace Go.Proofs
open V
theorem vg_shape (g : VG) (l : Nat) (bs : List Value) (h : g.ok 1 l bs) : ∃ a c, g.val l = .slice a l c := by
  cases g with
  | nil => exact ⟨none, 0, by rw [h.1]; rfl⟩
  | blk b cap sp => exact ⟨_, _, rfl⟩
/-- 32 bytes, or fewer and zeros -/
def padH (ns : List (BitVec 8)) (h : ns.length ≤ 32) : H32 := ⟨ns ++ (List.replicate 32 0#8).drop ns.length, by simp; omega⟩

theorem hdr_hash (ns : List (BitVec 8)) (hn : ns.length ≤ 32) (v : Value) (Rd : List Seg) (hv : ∀ w, Pts Rd w → SlIn w v (By ns)) (w : World) (hw : Pts Rd w) :
    Calls Tryz.prog 92 [v].toArray w (Ret fun u w' => u = vH (padH ns hn) ∧ Ext w w') := by
  refine beginR Tryz.func92 rfl Tryz.ntmps92 rfl hw ?_
  refine c_seq ?_
  refine c_region ?_
  refine seqq (o_alloc (ps := [hP h0]) Tryz.zeroValue26 (by kernel_rfl) rfl (fun b2 => ?_))
  refine c_nil ?_
  refine c_seq ?_
  refine c_region ?_
  refine seqq (o_alloc (ps := [hP h0]) Tryz.zeroValue26 (by kernel_rfl) rfl (fun b3 => ?_))
  refine j_obj b3 (ps' := [leaf .u8 32 (List.replicate 32 0#8) h0.2]) rfl (by rfl) ?_
  refine c_nil ?_
  refine c_seq ?_
  refine c_region ?_
  refine seqq (o_y (y_sliceArr Tryz.runUnderlying26 Tryz.sizeOf5 rfl) rfl ?_)
  refine seqq (o_y (y_move rfl) rfl ?_)
  refine seqq (o_copy (l := List.replicate 32 0#8) (ns := ns) Tryz.runUnderlying36 Tryz.sizeOf5 rfl rfl (hv_left hv) hn (by rfl) rfl ?_)
  refine c_nil ?_
  refine c_seq ?_
  refine c_region ?_
  refine seqq (o_y (lN Tryz.isAgg26 Tryz.sizeOf26 rfl (by rfl)) rfl ?_)
  refine seqq (stN Tryz.sizeOf26 rfl rfl (by rfl) rfl (by rfl) ?_)
  refine c_nil ?_
  refine c_ret ?_
  refine c_done1 Tryz.results92 (rN Tryz.isAgg26 Tryz.sizeOf26 rfl (by rfl)) (fun w hS => ?_)
  exact ⟨rfl, hS.none⟩

/-- a reader's way through a header -/
def rS (s : List (BitVec 8) × Bool) (n : Nat) : List (BitVec 8) × Bool := (rRest s.1 s.2 n, rBad s.1 s.2 n)
def p1 (bs : List (BitVec 8)) := rS (bs, false) 4
def p2 (bs : List (BitVec 8)) := rS (p1 bs) 32
def p3 (bs : List (BitVec 8)) := rS (p2 bs) 32
def p4 (bs : List (BitVec 8)) := rS (p3 bs) 4
def p5 (bs : List (BitVec 8)) := rS (p4 bs) 4
def p6 (bs : List (BitVec 8)) := rS (p5 bs) 4
def rO (s : List (BitVec 8) × Bool) (n : Nat) : List (BitVec 8) := rOut s.1 s.2 n
theorem rO_len (s : List (BitVec 8) × Bool) (n : Nat) : (rO s n).length ≤ n := by unfold rO rOut; split <;> simp; omega
theorem rS_len (s : List (BitVec 8) × Bool) (n : Nat) : (rS s n).1.length ≤ s.1.length := by unfold rS rRest; dsimp only; split <;> simp
def rawHd (bs : List (BitVec 8)) : Hd := ⟨(getV (rO (bs, false) 4)).setWidth 32, padH (rO (p1 bs) 32) (rO_len _ _), padH (rO (p2 bs) 32) (rO_len _ _), (getV (rO (p3 bs) 4)).setWidth 32, (getV (rO (p4 bs) 4)).setWidth 32, (getV (rO (p5 bs) 4)).setWidth 32⟩
def okHd (bs : List (BitVec 8)) : Bool := !(p6 bs).2 && decide ((p6 bs).1.length = 0)
def parseV (bs : List (BitVec 8)) : Value := if okHd bs = true then .tuple #[vHd (rawHd bs), vI 0] else .tuple #[vHd hd0, vI 2]

theorem hdr_Parse0 (bs : List (BitVec 8)) (hb : bs.length ≤ 1073741824) (v : Value) (Rd : List Seg) (hv : ∀ w, Pts Rd w → SlIn w v (By bs)) (w : World) (hw : Pts Rd w) :
    Calls Tryz.prog 63 [v].toArray w (Ret fun u w' => u = parseV bs ∧ Ext w w') := by
  refine beginR Tryz.func63 rfl Tryz.ntmps63 rfl hw ?_
  have hlen0 : (bs, false).1.length ≤ 1073741824 := hb
  have hlen1 : (p1 bs).1.length ≤ 1073741824 := Nat.le_trans (rS_len _ _) hlen0
  have hlen2 : (p2 bs).1.length ≤ 1073741824 := Nat.le_trans (rS_len _ _) hlen1
  have hlen3 : (p3 bs).1.length ≤ 1073741824 := Nat.le_trans (rS_len _ _) hlen2
  have hlen4 : (p4 bs).1.length ≤ 1073741824 := Nat.le_trans (rS_len _ _) hlen3
  have hlen5 : (p5 bs).1.length ≤ 1073741824 := Nat.le_trans (rS_len _ _) hlen4
  have hlen6 : (p6 bs).1.length ≤ 1073741824 := Nat.le_trans (rS_len _ _) hlen5
  refine c_seq ?_
  refine c_region ?_
  refine seqq (o_alloc (ps := (hdP hd0)) Tryz.zeroValue28 (by kernel_rfl) rfl (fun b2 => ?_))
  refine seqq (o_y (y_assign rfl) rfl ?_)
  refine c_nil ?_
  refine c_seq ?_
  refine c_region ?_
  refine seqq (o_y (y_move rfl) rfl ?_)
  refine seqq (o_new2 (X := Nat × VG) (v := fun x => .pointer (some ⟨x.1, 0, none⟩)) (p := fun x => x.2.ok 1 bs.length (By bs)) (A := fun x => [(x.1, obj 180 [P1 (x.2.val bs.length) (vg_one _ _), P1 (.bool false) rfl])]) (B := fun x => x.2.seg 5 (By bs)) Tryz.call90 rfl rfl (fun w hw => oct_Read bs hb v Rd hv w (fun p hp => hw p (by rw [List.flatten_append]; exact List.mem_append.2 (.inl hp)))) (fun r hr => ?_))
  obtain ⟨a0, c0, he⟩ := vg_shape r.2 bs.length _ hr
  have hv0 : ∀ w, Pts [(r.2.seg 5 (By bs))] w → SlIn w (.slice a0 bs.length c0) (By (bs, false).1) := fun w hw => he ▸ vg_reads (e := 5) hr (fun p hp => hw p (by simpa using hp))
  refine j_obj r.1 (ps' := [P1 (.slice a0 bs.length c0) rfl, P1 (.bool (bs, false).2) rfl]) (by simp only [he]) (by rfl) ?_
  refine seqq (o_y (y_assign rfl) rfl ?_)
  refine c_nil ?_
  refine c_seq ?_
  refine c_region ?_
  refine seqq (o_y (y_move rfl) rfl ?_)
  refine seqq (o_own1 (X := Option Addr × Nat × Nat) (v := fun _ => bv .u64 (getV (rO (bs, false) 4))) (p := fun x => ∀ w, Pts [(r.2.seg 5 (By bs))] w → SlIn w (.slice x.1 x.2.1 x.2.2) (By (p1 bs).1)) [[(r.1, obj 180 [P1 (.slice a0 bs.length c0) rfl, P1 (.bool (bs, false).2) rfl])]] (A := fun x => [(r.1, obj 180 [P1 (.slice x.1 x.2.1 x.2.2) rfl, P1 (.bool (p1 bs).2) rfl])]) Tryz.call91 rfl rfl (fun w hw => (oct_Get4 r.1 a0 bs.length c0 (bs, false).2 (bs, false).1 hlen0 [(r.2.seg 5 (By bs))] hv0 w (hw.lessR sub_right)).mono (fun e w2 h => by obtain ⟨v, h1, x, h2, h3, h4⟩ := h; exact ⟨v, h1, x, h2, h3, h4⟩)) (fun y1 hv1 => ?_))
  refine seqq (o_y (y_convB UK.u32 Tryz.runUnderlying49 Tryz.runUnderlying22 rfl) rfl ?_)
  refine seqq (o_y (y_move rfl) rfl ?_)
  refine seqq (o_own2 (X := VG × Option Addr × Nat × Nat) (v := fun x => x.1.val (rO (p1 bs) 32).length) (p := fun x => x.1.ok 1 (rO (p1 bs) 32).length (By (rO (p1 bs) 32)) ∧ ∀ w, Pts [(r.2.seg 5 (By bs))] w → SlIn w (.slice x.2.1 x.2.2.1 x.2.2.2) (By (p2 bs).1)) [[(r.1, obj 180 [P1 (.slice y1.1 y1.2.1 y1.2.2) rfl, P1 (.bool (p1 bs).2) rfl])]] (A := fun x => [(r.1, obj 180 [P1 (.slice x.2.1 x.2.2.1 x.2.2.2) rfl, P1 (.bool (p2 bs).2) rfl])]) (B := fun x => x.1.seg 5 (By (rO (p1 bs) 32))) Tryz.call93 rfl rfl (fun w hw => (oct_RawR r.1 y1.1 y1.2.1 y1.2.2 (p1 bs).2 (p1 bs).1 32 (by decide) (by decide) [(r.2.seg 5 (By bs))] hv1 w (hw.lessR sub_right)).mono (fun e w2 h => by obtain ⟨v, h1, x, h2, h3, h4⟩ := h; exact ⟨v, h1, x, h2, h3, h4⟩)) (fun z2 hz2 => ?_))
  refine seqq (o_pureS Tryz.call92 rfl (fun w hw => hdr_hash (rO (p1 bs) 32) (rO_len _ _) _ [z2.1.seg 5 (By (rO (p1 bs) 32))] (fun w hw => vg_reads (e := 5) hz2.1 (fun p hp => hw p (by simpa using hp))) w (fun p hp => hw p (sub_right p hp))) rfl ?_)
  refine seqq (o_y (y_move rfl) rfl ?_)
  refine seqq (o_own2 (X := VG × Option Addr × Nat × Nat) (v := fun x => x.1.val (rO (p2 bs) 32).length) (p := fun x => x.1.ok 1 (rO (p2 bs) 32).length (By (rO (p2 bs) 32)) ∧ ∀ w, Pts [(r.2.seg 5 (By bs))] w → SlIn w (.slice x.2.1 x.2.2.1 x.2.2.2) (By (p3 bs).1)) [[(r.1, obj 180 [P1 (.slice z2.2.1 z2.2.2.1 z2.2.2.2) rfl, P1 (.bool (p2 bs).2) rfl])]] (A := fun x => [(r.1, obj 180 [P1 (.slice x.2.1 x.2.2.1 x.2.2.2) rfl, P1 (.bool (p3 bs).2) rfl])]) (B := fun x => x.1.seg 5 (By (rO (p2 bs) 32))) Tryz.call93 rfl rfl (fun w hw => (oct_RawR r.1 z2.2.1 z2.2.2.1 z2.2.2.2 (p2 bs).2 (p2 bs).1 32 (by decide) (by decide) [(r.2.seg 5 (By bs))] hz2.2 w (hw.lessR sub_right)).mono (fun e w2 h => by obtain ⟨v, h1, x, h2, h3, h4⟩ := h; exact ⟨v, h1, x, h2, h3, h4⟩)) (fun z3 hz3 => ?_))
  refine seqq (o_pureS Tryz.call92 rfl (fun w hw => hdr_hash (rO (p2 bs) 32) (rO_len _ _) _ [z3.1.seg 5 (By (rO (p2 bs) 32))] (fun w hw => vg_reads (e := 5) hz3.1 (fun p hp => hw p (by simpa using hp))) w (fun p hp => hw p (sub_right p hp))) rfl ?_)
  refine seqq (o_y (y_move rfl) rfl ?_)
  refine seqq (o_own1 (X := Option Addr × Nat × Nat) (v := fun _ => bv .u64 (getV (rO (p3 bs) 4))) (p := fun x => ∀ w, Pts [(r.2.seg 5 (By bs))] w → SlIn w (.slice x.1 x.2.1 x.2.2) (By (p4 bs).1)) [[(r.1, obj 180 [P1 (.slice z3.2.1 z3.2.2.1 z3.2.2.2) rfl, P1 (.bool (p3 bs).2) rfl])]] (A := fun x => [(r.1, obj 180 [P1 (.slice x.1 x.2.1 x.2.2) rfl, P1 (.bool (p4 bs).2) rfl])]) Tryz.call91 rfl rfl (fun w hw => (oct_Get4 r.1 z3.2.1 z3.2.2.1 z3.2.2.2 (p3 bs).2 (p3 bs).1 hlen3 [(r.2.seg 5 (By bs))] hz3.2 w (hw.lessR sub_right)).mono (fun e w2 h => by obtain ⟨v, h1, x, h2, h3, h4⟩ := h; exact ⟨v, h1, x, h2, h3, h4⟩)) (fun y4 hv4 => ?_))
  refine seqq (o_y (y_convB UK.u32 Tryz.runUnderlying49 Tryz.runUnderlying22 rfl) rfl ?_)
  refine seqq (o_y (y_move rfl) rfl ?_)
  refine seqq (o_own1 (X := Option Addr × Nat × Nat) (v := fun _ => bv .u64 (getV (rO (p4 bs) 4))) (p := fun x => ∀ w, Pts [(r.2.seg 5 (By bs))] w → SlIn w (.slice x.1 x.2.1 x.2.2) (By (p5 bs).1)) [[(r.1, obj 180 [P1 (.slice y4.1 y4.2.1 y4.2.2) rfl, P1 (.bool (p4 bs).2) rfl])]] (A := fun x => [(r.1, obj 180 [P1 (.slice x.1 x.2.1 x.2.2) rfl, P1 (.bool (p5 bs).2) rfl])]) Tryz.call91 rfl rfl (fun w hw => (oct_Get4 r.1 y4.1 y4.2.1 y4.2.2 (p4 bs).2 (p4 bs).1 hlen4 [(r.2.seg 5 (By bs))] hv4 w (hw.lessR sub_right)).mono (fun e w2 h => by obtain ⟨v, h1, x, h2, h3, h4⟩ := h; exact ⟨v, h1, x, h2, h3, h4⟩)) (fun y5 hv5 => ?_))
  refine seqq (o_y (y_convB UK.u32 Tryz.runUnderlying49 Tryz.runUnderlying22 rfl) rfl ?_)
  refine seqq (o_y (y_move rfl) rfl ?_)
  refine seqq (o_own1 (X := Option Addr × Nat × Nat) (v := fun _ => bv .u64 (getV (rO (p5 bs) 4))) (p := fun x => ∀ w, Pts [(r.2.seg 5 (By bs))] w → SlIn w (.slice x.1 x.2.1 x.2.2) (By (p6 bs).1)) [[(r.1, obj 180 [P1 (.slice y5.1 y5.2.1 y5.2.2) rfl, P1 (.bool (p5 bs).2) rfl])]] (A := fun x => [(r.1, obj 180 [P1 (.slice x.1 x.2.1 x.2.2) rfl, P1 (.bool (p6 bs).2) rfl])]) Tryz.call91 rfl rfl (fun w hw => (oct_Get4 r.1 y5.1 y5.2.1 y5.2.2 (p5 bs).2 (p5 bs).1 hlen5 [(r.2.seg 5 (By bs))] hv5 w (hw.lessR sub_right)).mono (fun e w2 h => by obtain ⟨v, h1, x, h2, h3, h4⟩ := h; exact ⟨v, h1, x, h2, h3, h4⟩)) (fun y6 hv6 => ?_))
  refine seqq (o_y (y_convB UK.u32 Tryz.runUnderlying49 Tryz.runUnderlying22 rfl) rfl ?_)
  refine seqq (o_y (y_build (zs := (hdP hd0)) (pl := [(0, 1), (1, 32), (33, 32), (65, 1), (66, 1), (67, 1)]) Tryz.runUnderlying28 Tryz.zeroValue28 (by kernel_rfl) (fun w => by kernel_rfl) (.one rfl rfl (.agg rfl (.agg rfl (.one rfl rfl (.one rfl rfl (.one rfl rfl .nil)))))) (by rfl)) rfl ?_)
  refine seqq (o_alloc (ps := (hdP hd0)) Tryz.zeroValue28 (by kernel_rfl) rfl (fun b5 => ?_))
  refine seqq (stN Tryz.sizeOf28 rfl rfl (by rfl) rfl (by rfl) ?_)
  refine c_nil ?_
  refine c_seq ?_
  refine c_seq ?_
  refine c_region ?_
  refine seqq (o_y (y_move rfl) rfl ?_)
  refine seqq (o_pureS Tryz.call94 rfl (fun w hw => oct_End r.1 y6.1 y6.2.1 y6.2.2 (p6 bs).2 w (fun p hp => hw p (sub_right (N := [[(r.1, obj 180 [P1 (.slice y6.1 y6.2.1 y6.2.2) rfl, P1 (.bool (p6 bs).2) rfl])]]) p hp))) rfl ?_)
  refine seqq (o_y (y_not rfl) rfl ?_)
  refine c_nil ?_
  refine c_cond rfl (fun h29 => ?_) (fun h29 => ?_)
  ·
    refine c_seq ?_
    refine c_region ?_
    refine seqq (o_y (y_build (zs := (hdP hd0)) (pl := [(0, 1), (1, 32), (33, 32), (65, 1), (66, 1), (67, 1)]) Tryz.runUnderlying28 Tryz.zeroValue28 (by kernel_rfl) (fun w => by kernel_rfl) .nil (by rfl)) rfl ?_)
    refine seqq (stN Tryz.sizeOf28 rfl rfl (by rfl) rfl (by rfl) ?_)
    refine seqq (o_y (y_assign rfl) rfl ?_)
    refine c_nil ?_
    refine c_ret ?_
    refine c_done2 Tryz.results63 (rN Tryz.isAgg28 Tryz.sizeOf28 rfl (by rfl)) (.tmp rfl) (fun w hS => ?_)
    have hm : y6.2.1 = (p6 bs).1.length := by have := slIn_len (hv6 w (ptsM (N := [(r.2.seg 5 (By bs))]) hS)); simpa using this
    have e : okHd bs = (!(p6 bs).2 && decide (y6.2.1 = 0)) := by rw [okHd, hm]
    rw [← e] at h29
    exact ⟨by rw [parseV, if_neg (by intro hc; rw [hc] at h29; cases h29)]; rfl, hS.none⟩
  ·
    refine c_skip ?_
    refine c_seq ?_
    refine c_region ?_
    refine seqq (o_y (lN Tryz.isAgg28 Tryz.sizeOf28 rfl (by rfl)) rfl ?_)
    refine seqq (stN Tryz.sizeOf28 rfl rfl (by rfl) rfl (by rfl) ?_)
    refine seqq (o_y (y_assign rfl) rfl ?_)
    refine c_nil ?_
    refine c_ret ?_
    refine c_done2 Tryz.results63 (rN Tryz.isAgg28 Tryz.sizeOf28 rfl (by rfl)) (.tmp rfl) (fun w hS => ?_)
    have hm : y6.2.1 = (p6 bs).1.length := by have := slIn_len (hv6 w (ptsM (N := [(r.2.seg 5 (By bs))]) hS)); simpa using this
    have e : okHd bs = (!(p6 bs).2 && decide (y6.2.1 = 0)) := by rw [okHd, hm]
    rw [← e] at h29
    exact ⟨by rw [parseV, if_pos (by cases hc : okHd bs; rw [hc] at h29; cases h29; rfl)]; rfl, hS.none⟩

theorem hdr_Parse {w : World} {v : Value} {bs : List (BitVec 8)} (h : SlIn w v (By bs)) (hb : bs.length ≤ 1073741824) : Calls Tryz.prog 63 [v].toArray w (Ret fun u w' => u = parseV bs ∧ Ext w w') := by
  obtain ⟨Rd, a, c, rfl, h1, h2⟩ := slIn_rd h
  exact hdr_Parse0 bs hb _ Rd h2 w h1
theorem shl8_or (X : BitVec 64) (b : BitVec 8) (h : X.toNat < 72057594037927936) : ((X <<< 8) ||| b.setWidth 64).toNat = b.toNat + 256 * X.toNat := by
  have hb := b.isLt
  rw [BitVec.toNat_or, BitVec.toNat_shiftLeft, BitVec.toNat_setWidth, Nat.mod_eq_of_lt (show b.toNat < 2 ^ 64 by omega), Nat.mod_eq_of_lt (by rw [Nat.shiftLeft_eq]; omega), ← Nat.shiftLeft_add_eq_or_of_lt (by omega), Nat.shiftLeft_eq]
  omega
theorem getV_le : ∀ (bs : List (BitVec 8)), bs.length ≤ 8 → (getV bs).toNat = le bs
  | [], _ => rfl
  | b :: bs, h => by
    have ih := getV_le bs (by simp at h; omega)
    have hl := le_lt bs
    have h2 : 256 ^ bs.length ≤ 256 ^ 7 := Nat.pow_le_pow_right (by decide) (by simp at h; omega)
    have h3 : (getV bs).toNat < 72057594037927936 := by rw [ih]; exact Nat.lt_of_lt_of_le hl h2
    have := shl8_or (getV bs) b h3
    rw [ih] at this
    exact this
theorem putB_le : ∀ (n : Nat) (x : BitVec 64), le (putB x n) = x.toNat % 256 ^ n
  | 0, x => by simp [putB, le, Nat.mod_one]
  | n + 1, x => by
    simp only [putB, le, putB_le n]
    rw [BitVec.toNat_ushiftRight, Nat.shiftRight_eq_div_pow, BitVec.toNat_setWidth, show 256 ^ (n + 1) = 256 * 256 ^ n from by rw [Nat.pow_succ, Nat.mul_comm], Nat.mod_mul]
theorem getV_put (y : BitVec 32) : (getV (putB (y.setWidth 64) 4)).setWidth 32 = y := by
  apply BitVec.eq_of_toNat_eq
  have := y.isLt
  rw [BitVec.toNat_setWidth, getV_le _ (by rw [putB_len]; decide), putB_le, BitVec.toNat_setWidth]
  omega
theorem rO_app {xs ys : List (BitVec 8)} {n : Nat} (h : xs.length = n) : rO (xs ++ ys, false) n = xs := by
  have : ¬ ((false = true) ∨ (xs ++ ys).length < n) := by simp; omega
  simp only [rO, rOut]
  rw [if_neg this, ← h, List.take_left]
theorem rS_app {xs ys : List (BitVec 8)} {n : Nat} (h : xs.length = n) : rS (xs ++ ys, false) n = (ys, false) := by
  have : ¬ ((false = true) ∨ (xs ++ ys).length < n) := by simp; omega
  simp only [rS, rRest, rBad]
  rw [if_neg this, if_neg this, ← h, List.drop_left]
theorem padH_full {ns : List (BitVec 8)} {h : ns.length ≤ 32} (a : H32) (he : ns = a.1) : padH ns h = a := by
  apply Subtype.ext
  subst he
  simp [padH, a.2]
/-- what was written is read -/
theorem parse_hdB (h : Hd) : parseV (hdB h) = .tuple #[vHd h, vI 0] := by
  have e : hdB h = putB (h.ver.setWidth 64) 4 ++ (h.ahead.1 ++ (h.root.1 ++ (putB (h.time.setWidth 64) 4 ++ (putB (h.bits.setWidth 64) 4 ++ (putB (h.nonce.setWidth 64) 4 ++ []))))) := by simp [hdB]
  have e1 : p1 (hdB h) = ((h.ahead.1 ++ (h.root.1 ++ (putB (h.time.setWidth 64) 4 ++ (putB (h.bits.setWidth 64) 4 ++ (putB (h.nonce.setWidth 64) 4 ++ []))))), false) := by rw [p1, e]; exact rS_app (putB_len _ _)
  have e2 : p2 (hdB h) = ((h.root.1 ++ (putB (h.time.setWidth 64) 4 ++ (putB (h.bits.setWidth 64) 4 ++ (putB (h.nonce.setWidth 64) 4 ++ [])))), false) := by rw [p2, e1]; exact rS_app (h.ahead.2)
  have e3 : p3 (hdB h) = ((putB (h.time.setWidth 64) 4 ++ (putB (h.bits.setWidth 64) 4 ++ (putB (h.nonce.setWidth 64) 4 ++ []))), false) := by rw [p3, e2]; exact rS_app (h.root.2)
  have e4 : p4 (hdB h) = ((putB (h.bits.setWidth 64) 4 ++ (putB (h.nonce.setWidth 64) 4 ++ [])), false) := by rw [p4, e3]; exact rS_app (putB_len _ _)
  have e5 : p5 (hdB h) = ((putB (h.nonce.setWidth 64) 4 ++ []), false) := by rw [p5, e4]; exact rS_app (putB_len _ _)
  have e6 : p6 (hdB h) = ([], false) := by rw [p6, e5]; exact rS_app (putB_len _ _)
  have hok : okHd (hdB h) = true := by rw [okHd, e6]; rfl
  have hr : rawHd (hdB h) = h := by
    have f0 : rO (hdB h, false) 4 = putB (h.ver.setWidth 64) 4 := by rw [e]; exact rO_app (putB_len _ _)
    have f1 : rO (p1 (hdB h)) 32 = h.ahead.1 := by rw [e1]; exact rO_app h.ahead.2
    have f2 : rO (p2 (hdB h)) 32 = h.root.1 := by rw [e2]; exact rO_app h.root.2
    have f3 : rO (p3 (hdB h)) 4 = putB (h.time.setWidth 64) 4 := by rw [e3]; exact rO_app (putB_len _ _)
    have f4 : rO (p4 (hdB h)) 4 = putB (h.bits.setWidth 64) 4 := by rw [e4]; exact rO_app (putB_len _ _)
    have f5 : rO (p5 (hdB h)) 4 = putB (h.nonce.setWidth 64) 4 := by rw [e5]; exact rO_app (putB_len _ _)
    simp only [rawHd, f0, f3, f4, f5, getV_put]
    rw [padH_full h.ahead f1, padH_full h.root f2]
  rw [parseV, if_pos hok, hr]
