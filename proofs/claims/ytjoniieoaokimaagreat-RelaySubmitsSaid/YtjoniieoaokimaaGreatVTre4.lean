/- Walks and laws of this claim, part Tre4. -/
import Derived.Test.YtjoniieoaokimaaGreatVTre3
set_option linter.unusedVariables false
set_option linter.unusedSimpArgs false
set_option linter.unusedSectionVars false
set_option autoImplicit true
set_option relaxedAutoImplicit true
set_option maxRecDepth 100000
set_option maxHeartbeats 1000000
namespace Go.Proofs
open V
def workN (h : Hd) : Nat := workT (decT h.bits)
theorem workN_lt (h : Hd) : workN h < M256 := workT_lt _

theorem tree_work (h : Hd) : Pure Tryz.prog 36 [vHd h] (vW (workN h)) := by
  intro w
  have hd := decT_lt h.bits
  refine begin0 Tryz.func36 rfl Tryz.ntmps36 rfl ?_
  refine c_seq ?_
  refine c_region ?_
  refine seqq (o_box (T := 28) rfl (IsP.agg).cells rfl (fun b1 => ?_))
  refine seqq (o_alloc (ps := wideN 0) Tryz.zeroValue51 (by kernel_rfl) rfl (fun b2 => ?_))
  refine c_nil ?_
  refine c_seq ?_
  refine c_region ?_
  refine seqq (o_y (y_fieldAddr Tryz.runUnderlying28 rfl Tryz.sizeOf22 rfl rfl) rfl ?_)
  refine seqq (o_y (l1 Tryz.isAgg22 rfl (by rfl)) rfl ?_)
  refine seqq (o_pure Tryz.call62 rfl (target_Decode _) rfl ?_)
  refine seqq (o_y (y_move rfl) rfl ?_)
  refine seqq (o_y (y_extract rfl rfl) rfl ?_)
  refine seqq (o_y (y_extract rfl rfl) rfl ?_)
  refine seqq (o_alloc (ps := wideN 0) Tryz.zeroValue51 (by kernel_rfl) rfl (fun b3 => ?_))
  refine seqq (stN Tryz.sizeOf51 rfl rfl (by rfl) rfl (by rfl) ?_)
  refine seqq (o_y (y_assign rfl) rfl ?_)
  refine c_nil ?_
  refine c_seq ?_
  refine c_region ?_
  refine seqq (o_y (lN Tryz.isAgg51 Tryz.sizeOf51 rfl (by rfl)) rfl ?_)
  refine seqq (o_pure Tryz.call69 rfl (target_Work _ (by assumption)) rfl ?_)
  refine seqq (stN Tryz.sizeOf51 rfl rfl (by rfl) rfl (by rfl) ?_)
  refine c_nil ?_
  refine c_ret ?_
  refine c_done1 Tryz.results36 (rN Tryz.isAgg51 Tryz.sizeOf51 rfl (by rfl)) (fun w hS => ?_)
  exact ⟨rfl, hS.none⟩

/-! ### a block more -/
theorem getD_app {bs : List Nat} {b i : Nat} (h : i < bs.length) : (bs ++ [b]).getD i 0 = bs.getD i 0 := by simp [List.getD, List.getElem?_append_left h]
theorem getD_app' {bs : List Nat} {b : Nat} : (bs ++ [b]).getD bs.length 0 = b := by simp [List.getD]
theorem mapFrom_app (bs : List Nat) (b : Nat) (x : Nd) : ∀ (L : List Nd) (i : Nat), i + L.length = bs.length → mapFrom (bs ++ [b]) i (L ++ [x]) = mapFrom bs i L ++ [⟨hashH x.h, .pointer (some ⟨b, 0, none⟩), bs.length⟩]
  | [], i, h => by
    have : i = bs.length := by simpa using h
    subst this
    simp only [List.nil_append, mapFrom, ptrI, ptrA, Option.map_some, getD_app']
  | y :: L, i, h => by
    simp only [List.length_cons] at h
    simp only [List.cons_append, mapFrom, ptrI, ptrA, Option.map_some]
    rw [getD_app (by omega), mapFrom_app bs b x L (i + 1) (by omega)]
theorem mPut_new {k : H32} {v : Value} {l : List (Me H32)} {c : Nat} (h : (mFind k l 0).isSome = false) : mPut k v l c = (l ++ [⟨k, v, c⟩], c + 1) := by
  unfold mPut
  cases hf : mFind k l 0 with
  | none => rfl
  | some r => rw [hf] at h; cases h
theorem o_putT {Q : Exit → Act → World → Prop} {K : Act → World → Prop} {ops : Array Oper} {n : Nat} {D : List Deferred} {E : Env} {σ : Bs} {M M' : List Seg} {x y z : Operand} {ty : TypeId} {pos : String} {after : Array Edge} {op : Op} {bm b i : Nat} {bs : List Nat} {L : List Nd} (nn : Nd)
    (hop : op = .mapUpdate 88 x y z ∨ op = .insert 88 x y z) (hl : bs.length = L.length) (hnew : findT L (hashH nn.h) = none) (hx : val E x = some (.map (some bm))) (hy : val E y = some (vL32 (hashH nn.h))) (hz : val E z = some (.pointer (some ⟨b, 0, none⟩)))
    [hu : Pos bm (mObT bs L) M i] (hs : setSeg M i [(bm, mObT (bs ++ [b]) (L ++ [nn]))] [] = some M')
    (h : J n D E σ M' K) : J n D E σ M (Op1 Tryz.prog ops Q ⟨none, op, ty, pos, after, none⟩ K) := by
  have e : mPut (hashH nn.h) (.pointer (some ⟨b, 0, none⟩)) (mapL bs L) L.length = (mapL (bs ++ [b]) (L ++ [nn]), L.length + 1) := by
    rw [mPut_new (by rw [look_is, hnew]; rfl), mapL, mapL, mapFrom_app bs b nn L 0 (by omega), hl]
  have e2 : mObT (bs ++ [b]) (L ++ [nn]) = mObj vL32 (mPut (hashH nn.h) (.pointer (some ⟨b, 0, none⟩)) (mapL bs L) L.length).1 (mPut (hashH nn.h) (.pointer (some ⟨b, 0, none⟩)) (mapL bs L) L.length).2 := by
    rw [e, mObT]; simp
  rw [e2] at hs
  exact o_mapUpdate (f := vL32) (l := mapL bs L) (c := L.length) (k := hashH nn.h) hop Tryz.runUnderlying88 keyH hx hy hz (hu := hu) hs h
/-! ### the first block alone -/
def nd1 (h : Hd) : Nd := ⟨h, none, 0, workN h, 0⟩
def newTr (r : Rl) (x : Nat × Nat × Nat × Nat) : Tr := ⟨x.1, x.2.1, x.2.2.1, 1, [], [x.2.2.2], r, [nd1 r.first], [0], 1⟩
theorem newTr_ok (r : Rl) (x : Nat × Nat × Nat × Nat) : (newTr r x).ok where
  l := { pos := by simp [newTr], root := ⟨rfl, rfl⟩
         step := fun i h0 hi => by simp [newTr] at hi; omega
         work := fun i => by
          cases i with
          | zero => exact workN_lt _
          | succ i => exact (by decide : (0 : Nat) < M256)
         kids := fun i => by cases i <;> exact Nat.zero_le _
         big := by simp [newTr] }
  c := { ne := by simp [newTr]
         lt := fun k hk => by have : k = 0 := by simpa [newTr] using hk
                              subst this; simp [newTr]
         ht := fun k hk => by have : k = 0 := by simpa [newTr] using hk
                              subst this; rfl
         step := fun k hk => by simp [newTr] at hk }
  bs := rfl
  cap := rfl
  tips := by simp [newTr]
  nd := by simp [newTr]

theorem tree_New_bad (r : Rl) (hc : ¬ checkR r = 0) : Pure Tryz.prog 10 [vRl r] (.tuple #[.pointer none, vI (checkR r)]) := by
  intro w
  refine begin0 Tryz.func10 rfl Tryz.ntmps10 rfl ?_
  refine c_seq ?_
  refine c_region ?_
  refine seqq (o_box (T := 30) rfl (IsP.agg).cells rfl (fun b1 => ?_))
  refine seqq (o_y (y_assign rfl) rfl ?_)
  refine seqq (o_y (y_assign rfl) rfl ?_)
  refine c_nil ?_
  refine c_seq ?_
  refine c_seq ?_
  refine c_region ?_
  refine seqq (o_y (lN Tryz.isAgg30 Tryz.sizeOf30 rfl (by rfl)) rfl ?_)
  refine seqq (o_pure Tryz.call21 rfl (adj_Check _) rfl ?_)
  refine seqq (o_y (y_assign rfl) rfl ?_)
  refine c_nil ?_
  refine c_seq ?_
  refine c_region ?_
  refine seqq (o_y (y_move rfl) rfl ?_)
  refine seqq (o_y (y_neqZ rfl rfl) rfl ?_)
  refine j_re 9 rfl (V.decNT hc) ?_
  refine c_nil ?_
  refine c_condT rfl ?_
  refine c_seq ?_
  refine c_region ?_
  refine seqq (o_y (y_move rfl) rfl ?_)
  refine seqq (o_y (y_assign rfl) rfl ?_)
  refine seqq (o_y (y_assign rfl) rfl ?_)
  refine c_nil ?_
  refine c_ret ?_
  refine c_done2 Tryz.results10 (.tmp rfl) (.tmp rfl) (fun w hS => ?_)
  exact ⟨rfl, hS.none⟩

theorem newTr_seg (r : Rl) (b35 b25 b33 b17 : Nat) : treeM (newTr r (b35, b25, b33, b17)) = [[(b35, obj 91 [P1 (vI r.every) rfl, P1 (bv .u32 r.span) rfl, P1 (bv .u32 r.limit) rfl, P1 (vI r.confirm) rfl, P1 (bv .u32 r.first.ver) rfl, hP r.first.ahead, hP r.first.root, P1 (bv .u32 r.first.time) rfl, P1 (bv .u32 r.first.bits) rfl, P1 (bv .u32 r.first.nonce) rfl, P1 (.map (some b25)) rfl, P1 (.slice (some ⟨b33, 0, none⟩) 1 1) rfl, P1 (vI 1) rfl])], [(b25, mObT ([] ++ [b17]) ([] ++ [nd1 r.first]))], [(b33, obj 84 [P1 (.pointer (some ⟨b17, 0, none⟩)) rfl])],
  [(b17, obj 86 [P1 (bv .u32 r.first.ver) rfl, hP r.first.ahead, hP r.first.root, P1 (bv .u32 r.first.time) rfl, P1 (bv .u32 r.first.bits) rfl, P1 (bv .u32 r.first.nonce) rfl, hP (hashH r.first), P1 (.pointer none) rfl, P1 (vI 0) rfl, P1 (bv .u64 (nw (workN r.first) 0)) rfl, P1 (bv .u64 (nw (workN r.first) 1)) rfl, P1 (bv .u64 (nw (workN r.first) 2)) rfl, P1 (bv .u64 (nw (workN r.first) 3)) rfl, P1 (vI 0) rfl])]] := rfl

theorem tree_New (r : Rl) (hc : checkR r = 0) (w : World) : Quiet Tryz.prog 10 [vRl r] (fun u L => ∃ x : Nat × Nat × Nat × Nat, True ∧ u = .tuple #[.pointer (some ⟨x.1, 0, none⟩), vI 0] ∧ L = treeM (newTr r x)) w := by
  refine begin0 Tryz.func10 rfl Tryz.ntmps10 rfl ?_
  refine c_seq ?_
  refine c_region ?_
  refine seqq (o_box (T := 30) rfl (IsP.agg).cells rfl (fun b1 => ?_))
  refine seqq (o_y (y_assign rfl) rfl ?_)
  refine seqq (o_y (y_assign rfl) rfl ?_)
  refine c_nil ?_
  refine c_seq ?_
  refine c_seq ?_
  refine c_region ?_
  refine seqq (o_y (lN Tryz.isAgg30 Tryz.sizeOf30 rfl (by rfl)) rfl ?_)
  refine seqq (o_pure Tryz.call21 rfl (adj_Check _) rfl ?_)
  refine seqq (o_y (y_assign rfl) rfl ?_)
  refine c_nil ?_
  refine c_seq ?_
  refine c_region ?_
  refine seqq (o_y (y_move rfl) rfl ?_)
  refine seqq (o_y (y_neqZ rfl rfl) rfl ?_)
  refine j_re 9 rfl (V.decNF hc) ?_
  refine c_nil ?_
  refine c_condF rfl ?_
  refine c_skip ?_
  refine c_seq ?_
  refine d_reg 7 mixed rfl ?_
  refine d_y (i := 0) (k' := 1) rfl (by kernel_rfl) (y_fieldAddr Tryz.runUnderlying30 rfl Tryz.sizeOf28 rfl rfl) rfl ?_
  refine d_s (i := 1) (k' := 3) rfl (by kernel_rfl) (by kernel_rfl) (lN Tryz.isAgg28 Tryz.sizeOf28 rfl (by rfl)) hss rfl ?_
  refine d_y (i := 2) (k' := 7) rfl (by kernel_rfl) (y_fieldAddr Tryz.runUnderlying30 rfl Tryz.sizeOf28 rfl rfl) rfl ?_
  refine d_s (i := 3) (k' := 15) rfl (by kernel_rfl) (by kernel_rfl) (lN Tryz.isAgg28 Tryz.sizeOf28 rfl (by rfl)) hss rfl ?_
  refine d_c (i := 4) (k' := 31) rfl (by kernel_rfl) Tryz.call27 rfl (hdr_Hash _) rfl ?_
  refine d_y (i := 5) (k' := 63) rfl (by kernel_rfl) (y_build (zs := [P1 (bv .u32 0#32), zleaf .u8 8 32, zleaf .u8 8 32, P1 (bv .u32 0#32), P1 (bv .u32 0#32), P1 (bv .u32 0#32), zleaf .u8 8 32, P1 (.pointer none), P1 (vI 0), P1 (bv .u64 0#64), P1 (bv .u64 0#64), P1 (bv .u64 0#64), P1 (bv .u64 0#64), P1 (vI 0)]) (pl := [(0, 68), (68, 32), (100, 1), (101, 1), (102, 4), (106, 1)]) Tryz.runUnderlying86 Tryz.zeroValue86 (by kernel_rfl) (fun w => by kernel_rfl) (.agg rfl (.agg rfl .nil)) (by rfl)) rfl ?_
  refine d_e (i := 6) (k' := 127) rfl (by kernel_rfl) (o_box (T := 86) rfl (IsP.agg).cells rfl (fun b17 => d_keep hss ?_))
  refine d_y (i := 7) (k' := 255) rfl (by kernel_rfl) (y_assign rfl) rfl ?_
  refine d_end (by kernel_rfl) ?_
  refine c_seq ?_
  refine c_region ?_
  refine seqq (o_y (y_move rfl) rfl ?_)
  refine seqq (o_y (y_fieldAddr Tryz.runUnderlying30 rfl Tryz.sizeOf28 rfl rfl) rfl ?_)
  refine seqq (o_y (lN Tryz.isAgg28 Tryz.sizeOf28 rfl (by rfl)) rfl ?_)
  refine seqq (o_pure Tryz.call36 rfl (tree_work _) rfl ?_)
  refine seqq (o_y (y_nilCheck rfl) rfl ?_)
  refine seqq (o_y (y_fieldAddr Tryz.runUnderlying86 rfl Tryz.sizeOf51 rfl rfl) rfl ?_)
  refine seqq (stN Tryz.sizeOf51 rfl rfl (by rfl) rfl (by rfl) ?_)
  refine c_nil ?_
  refine c_seq ?_
  refine d_reg 13 mixed rfl ?_
  refine d_s (i := 0) (k' := 1) rfl (by kernel_rfl) (by kernel_rfl) (lN Tryz.isAgg30 Tryz.sizeOf30 rfl (by rfl)) hss rfl ?_
  refine d_y (i := 2) (k' := 5) rfl (by kernel_rfl) (y_move rfl) rfl ?_
  refine d_y (i := 3) (k' := 13) rfl (by kernel_rfl) (y_nilCheck rfl) rfl ?_
  refine d_y (i := 4) (k' := 29) rfl (by kernel_rfl) (y_fieldAddr Tryz.runUnderlying86 rfl Tryz.sizeOf26 rfl rfl) rfl ?_
  refine d_s (i := 5) (k' := 61) rfl (by kernel_rfl) (by kernel_rfl) (lN Tryz.isAgg26 Tryz.sizeOf26 rfl (by rfl)) hss rfl ?_
  refine d_y (i := 6) (k' := 125) rfl (by kernel_rfl) (y_move rfl) rfl ?_
  refine d_y (i := 9) (k' := 637) rfl (by kernel_rfl) (y_move rfl) rfl ?_
  refine d_e2 (i := 1) (j := 10) (k1 := 639) (k2 := 1661) rfl rfl (by kernel_rfl) ?_ ?_
  ·
    refine (o_makeMap (f := vL32) rfl (fun b25 => d_keep hss ?_))
    refine d_e2 (i := 7) (j := 10) (k1 := 767) (k2 := 1663) rfl rfl (by kernel_rfl) ?_ ?_
    ·
      refine (o_putT (bs := []) (L := []) (nd1 r.first) (.inr rfl) rfl rfl rfl rfl rfl (by rfl) ( d_keep hss ?_))
      refine d_y (i := 8) (k' := 1023) rfl (by kernel_rfl) (y_move rfl) rfl ?_
      refine d_e (i := 10) (k' := 2047) rfl (by kernel_rfl) (o_buildSlice (zs := [P1 (.pointer none)]) Tryz.runUnderlying89 Tryz.sizeOf84 Tryz.zeroValue84 (by kernel_rfl) rfl rfl (.one rfl rfl .nil) (by rfl) rfl (fun b33 => d_keep hss ?_))
      refine d_y (i := 11) (k' := 4095) rfl (by kernel_rfl) (y_build (zs := [P1 (vI 0), P1 (bv .u32 0#32), P1 (bv .u32 0#32), P1 (vI 0), P1 (bv .u32 0#32), zleaf .u8 8 32, zleaf .u8 8 32, P1 (bv .u32 0#32), P1 (bv .u32 0#32), P1 (bv .u32 0#32), P1 (.map none), P1 (.slice none 0 0), P1 (vI 0)]) (pl := [(0, 72), (72, 1), (73, 1), (74, 1)]) Tryz.runUnderlying91 Tryz.zeroValue91 (by kernel_rfl) (fun w => by kernel_rfl) (.agg rfl (.one rfl rfl (.one rfl rfl (.one (v := vI 1) rfl rfl .nil)))) (by rfl)) rfl ?_
      refine d_e (i := 12) (k' := 8191) rfl (by kernel_rfl) (o_box (T := 91) rfl (IsP.agg).cells rfl (fun b35 => d_keep hss ?_))
      refine d_y (i := 13) (k' := 16383) rfl (by kernel_rfl) (y_assign rfl) rfl ?_
      refine d_y (i := 14) (k' := 32767) rfl (by kernel_rfl) (y_assign rfl) rfl ?_
      refine d_end (by kernel_rfl) ?_
      refine c_ret ?_
      refine c_done2 Tryz.results10 (.tmp rfl) (.tmp rfl) (fun w hS => ?_)
      exact ⟨treeM (newTr r (b35, b25, b33, b17)), ⟨_, trivial, rfl, rfl⟩, (newTr_seg r b35 b25 b33 b17) ▸ hS.fin (N := [[(b35, obj 91 [P1 (vI r.every) rfl, P1 (bv .u32 r.span) rfl, P1 (bv .u32 r.limit) rfl, P1 (vI r.confirm) rfl, P1 (bv .u32 r.first.ver) rfl, hP r.first.ahead, hP r.first.root, P1 (bv .u32 r.first.time) rfl, P1 (bv .u32 r.first.bits) rfl, P1 (bv .u32 r.first.nonce) rfl, P1 (.map (some b25)) rfl, P1 (.slice (some ⟨b33, 0, none⟩) 1 1) rfl, P1 (vI 1) rfl])], [(b25, mObT ([] ++ [b17]) ([] ++ [nd1 r.first]))], [(b33, obj 84 [P1 (.pointer (some ⟨b17, 0, none⟩)) rfl])],
        [(b17, obj 86 [P1 (bv .u32 r.first.ver) rfl, hP r.first.ahead, hP r.first.root, P1 (bv .u32 r.first.time) rfl, P1 (bv .u32 r.first.bits) rfl, P1 (bv .u32 r.first.nonce) rfl, hP (hashH r.first), P1 (.pointer none) rfl, P1 (vI 0) rfl, P1 (bv .u64 (nw (workN r.first) 0)) rfl, P1 (bv .u64 (nw (workN r.first) 1)) rfl, P1 (bv .u64 (nw (workN r.first) 2)) rfl, P1 (bv .u64 (nw (workN r.first) 3)) rfl, P1 (vI 0) rfl])]])⟩
    ·
      refine (o_buildSlice (zs := [P1 (.pointer none)]) Tryz.runUnderlying89 Tryz.sizeOf84 Tryz.zeroValue84 (by kernel_rfl) rfl rfl (.one rfl rfl .nil) (by rfl) rfl (fun b33 => d_keep hss ?_))
      refine d_e (i := 7) (k' := 1791) rfl (by kernel_rfl) (o_putT (bs := []) (L := []) (nd1 r.first) (.inr rfl) rfl rfl rfl rfl rfl (by rfl) ( d_keep hss ?_))
      refine d_y (i := 8) (k' := 2047) rfl (by kernel_rfl) (y_move rfl) rfl ?_
      refine d_y (i := 11) (k' := 4095) rfl (by kernel_rfl) (y_build (zs := [P1 (vI 0), P1 (bv .u32 0#32), P1 (bv .u32 0#32), P1 (vI 0), P1 (bv .u32 0#32), zleaf .u8 8 32, zleaf .u8 8 32, P1 (bv .u32 0#32), P1 (bv .u32 0#32), P1 (bv .u32 0#32), P1 (.map none), P1 (.slice none 0 0), P1 (vI 0)]) (pl := [(0, 72), (72, 1), (73, 1), (74, 1)]) Tryz.runUnderlying91 Tryz.zeroValue91 (by kernel_rfl) (fun w => by kernel_rfl) (.agg rfl (.one rfl rfl (.one rfl rfl (.one (v := vI 1) rfl rfl .nil)))) (by rfl)) rfl ?_
      refine d_e (i := 12) (k' := 8191) rfl (by kernel_rfl) (o_box (T := 91) rfl (IsP.agg).cells rfl (fun b35 => d_keep hss ?_))
      refine d_y (i := 13) (k' := 16383) rfl (by kernel_rfl) (y_assign rfl) rfl ?_
      refine d_y (i := 14) (k' := 32767) rfl (by kernel_rfl) (y_assign rfl) rfl ?_
      refine d_end (by kernel_rfl) ?_
      refine c_ret ?_
      refine c_done2 Tryz.results10 (.tmp rfl) (.tmp rfl) (fun w hS => ?_)
      exact ⟨treeM (newTr r (b35, b25, b33, b17)), ⟨_, trivial, rfl, rfl⟩, (newTr_seg r b35 b25 b33 b17) ▸ hS.fin (N := [[(b35, obj 91 [P1 (vI r.every) rfl, P1 (bv .u32 r.span) rfl, P1 (bv .u32 r.limit) rfl, P1 (vI r.confirm) rfl, P1 (bv .u32 r.first.ver) rfl, hP r.first.ahead, hP r.first.root, P1 (bv .u32 r.first.time) rfl, P1 (bv .u32 r.first.bits) rfl, P1 (bv .u32 r.first.nonce) rfl, P1 (.map (some b25)) rfl, P1 (.slice (some ⟨b33, 0, none⟩) 1 1) rfl, P1 (vI 1) rfl])], [(b25, mObT ([] ++ [b17]) ([] ++ [nd1 r.first]))], [(b33, obj 84 [P1 (.pointer (some ⟨b17, 0, none⟩)) rfl])],
        [(b17, obj 86 [P1 (bv .u32 r.first.ver) rfl, hP r.first.ahead, hP r.first.root, P1 (bv .u32 r.first.time) rfl, P1 (bv .u32 r.first.bits) rfl, P1 (bv .u32 r.first.nonce) rfl, hP (hashH r.first), P1 (.pointer none) rfl, P1 (vI 0) rfl, P1 (bv .u64 (nw (workN r.first) 0)) rfl, P1 (bv .u64 (nw (workN r.first) 1)) rfl, P1 (bv .u64 (nw (workN r.first) 2)) rfl, P1 (bv .u64 (nw (workN r.first) 3)) rfl, P1 (vI 0) rfl])]])⟩
  ·
    refine (o_buildSlice (zs := [P1 (.pointer none)]) Tryz.runUnderlying89 Tryz.sizeOf84 Tryz.zeroValue84 (by kernel_rfl) rfl rfl (.one rfl rfl .nil) (by rfl) rfl (fun b33 => d_keep hss ?_))
    refine d_e (i := 1) (k' := 1663) rfl (by kernel_rfl) (o_makeMap (f := vL32) rfl (fun b25 => d_keep hss ?_))
    refine j_seg (T := [(b25, mObj vL32 [] 0)]) (T' := [(b25, mObT [] [])]) rfl ?_
    refine d_e (i := 7) (k' := 1791) rfl (by kernel_rfl) (o_putT (bs := []) (L := []) (nd1 r.first) (.inr rfl) rfl rfl rfl rfl rfl (by rfl) ( d_keep hss ?_))
    refine d_y (i := 8) (k' := 2047) rfl (by kernel_rfl) (y_move rfl) rfl ?_
    refine d_y (i := 11) (k' := 4095) rfl (by kernel_rfl) (y_build (zs := [P1 (vI 0), P1 (bv .u32 0#32), P1 (bv .u32 0#32), P1 (vI 0), P1 (bv .u32 0#32), zleaf .u8 8 32, zleaf .u8 8 32, P1 (bv .u32 0#32), P1 (bv .u32 0#32), P1 (bv .u32 0#32), P1 (.map none), P1 (.slice none 0 0), P1 (vI 0)]) (pl := [(0, 72), (72, 1), (73, 1), (74, 1)]) Tryz.runUnderlying91 Tryz.zeroValue91 (by kernel_rfl) (fun w => by kernel_rfl) (.agg rfl (.one rfl rfl (.one rfl rfl (.one (v := vI 1) rfl rfl .nil)))) (by rfl)) rfl ?_
    refine d_e (i := 12) (k' := 8191) rfl (by kernel_rfl) (o_box (T := 91) rfl (IsP.agg).cells rfl (fun b35 => d_keep hss ?_))
    refine d_y (i := 13) (k' := 16383) rfl (by kernel_rfl) (y_assign rfl) rfl ?_
    refine d_y (i := 14) (k' := 32767) rfl (by kernel_rfl) (y_assign rfl) rfl ?_
    refine d_end (by kernel_rfl) ?_
    refine c_ret ?_
    refine c_done2 Tryz.results10 (.tmp rfl) (.tmp rfl) (fun w hS => ?_)
    exact ⟨treeM (newTr r (b35, b25, b33, b17)), ⟨_, trivial, rfl, rfl⟩, (newTr_seg r b35 b25 b33 b17) ▸ hS.fin (N := [[(b35, obj 91 [P1 (vI r.every) rfl, P1 (bv .u32 r.span) rfl, P1 (bv .u32 r.limit) rfl, P1 (vI r.confirm) rfl, P1 (bv .u32 r.first.ver) rfl, hP r.first.ahead, hP r.first.root, P1 (bv .u32 r.first.time) rfl, P1 (bv .u32 r.first.bits) rfl, P1 (bv .u32 r.first.nonce) rfl, P1 (.map (some b25)) rfl, P1 (.slice (some ⟨b33, 0, none⟩) 1 1) rfl, P1 (vI 1) rfl])], [(b25, mObT ([] ++ [b17]) ([] ++ [nd1 r.first]))], [(b33, obj 84 [P1 (.pointer (some ⟨b17, 0, none⟩)) rfl])],
      [(b17, obj 86 [P1 (bv .u32 r.first.ver) rfl, hP r.first.ahead, hP r.first.root, P1 (bv .u32 r.first.time) rfl, P1 (bv .u32 r.first.bits) rfl, P1 (bv .u32 r.first.nonce) rfl, hP (hashH r.first), P1 (.pointer none) rfl, P1 (vI 0) rfl, P1 (bv .u64 (nw (workN r.first) 0)) rfl, P1 (bv .u64 (nw (workN r.first) 1)) rfl, P1 (bv .u64 (nw (workN r.first) 2)) rfl, P1 (bv .u64 (nw (workN r.first) 3)) rfl, P1 (vI 0) rfl])]])⟩
