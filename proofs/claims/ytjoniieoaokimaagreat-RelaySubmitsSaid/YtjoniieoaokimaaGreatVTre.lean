/- Walks and laws of this claim, part Tre. -/
import Derived.Test.YtjoniieoaokimaaGreatVMed
import Derived.Test.YtjoniieoaokimaaGreatVPtr
set_option linter.unusedVariables false
set_option linter.unusedSimpArgs false
set_option linter.unusedSectionVars false
set_option autoImplicit true
set_option relaxedAutoImplicit true
set_option maxRecDepth 100000
set_option maxHeartbeats 1000000
namespace Go.Proofs
open V
/-! ### a tree: its blocks by number, in the order in which they were added -/
structure Nd where
  h : Hd
  ahead : Option Nat
  height : Nat
  work : Nat
  kids : Nat
def nd0 : Nd := ⟨hd0, none, 0, 0, 0⟩
/-- block number i's place -/
def ptrA (bs : List Nat) (o : Option Nat) : Option Addr := o.map fun i => ⟨bs.getD i 0, 0, none⟩
def ptrI (bs : List Nat) (o : Option Nat) : Value := .pointer (ptrA bs o)
theorem ptrI_one (bs : List Nat) (o : Option Nat) : one1 (ptrI bs o) = true := rfl
theorem ptrA_some {bs : List Nat} {o : Option Nat} (h : (ptrA bs o).isSome = true) : ∃ i, o = some i := by cases o with
  | none => cases h
  | some i => exact ⟨i, rfl⟩
theorem ptrA_none {bs : List Nat} {o : Option Nat} (h : (ptrA bs o).isSome = false) : o = none := by cases o with
  | none => rfl
  | some i => cases h
def ndP (bs : List Nat) (x : Nd) : List Part :=
  [P1 (bv .u32 x.h.ver) rfl, hP x.h.ahead, hP x.h.root, P1 (bv .u32 x.h.time) rfl, P1 (bv .u32 x.h.bits) rfl, P1 (bv .u32 x.h.nonce) rfl, hP (hashH x.h), P1 (ptrI bs x.ahead) (ptrI_one _ _), P1 (vI x.height) rfl,
   P1 (bv .u64 (nw x.work 0)), P1 (bv .u64 (nw x.work 1)), P1 (bv .u64 (nw x.work 2)), P1 (bv .u64 (nw x.work 3)), P1 (vI x.kids) rfl]
/-- one after the other, with their numbers -/
def ndsFrom (bs : List Nat) : Nat → List Nd → Seg
  | _, [] => []
  | i, x :: l => (bs.getD i 0, obj 86 (ndP bs x)) :: ndsFrom bs (i + 1) l
def ndSeg (bs : List Nat) (L : List Nd) : Seg := ndsFrom bs 0 L
def mapFrom (bs : List Nat) : Nat → List Nd → List (Me H32)
  | _, [] => []
  | i, x :: l => ⟨hashH x.h, ptrI bs (some i), i⟩ :: mapFrom bs (i + 1) l
def mapL (bs : List Nat) (L : List Nd) : List (Me H32) := mapFrom bs 0 L
def chV (bs ch : List Nat) : List Value := ch.map fun i => ptrI bs (some i)
/-- a tree in memory -/
structure Tr where
  bt : Nat
  bm : Nat
  bc : Nat
  cap : Nat
  sp : List Value
  bs : List Nat
  r : Rl
  L : List Nd
  ch : List Nat
  tips : Nat
def trP (τ : Tr) : List Part := [P1 (vI τ.r.every) rfl, P1 (bv .u32 τ.r.span) rfl, P1 (bv .u32 τ.r.limit) rfl, P1 (vI τ.r.confirm) rfl, P1 (bv .u32 τ.r.first.ver) rfl, hP τ.r.first.ahead, hP τ.r.first.root, P1 (bv .u32 τ.r.first.time) rfl, P1 (bv .u32 τ.r.first.bits) rfl, P1 (bv .u32 τ.r.first.nonce) rfl,
  P1 (.map (some τ.bm)) rfl, P1 (.slice (some ⟨τ.bc, 0, none⟩) τ.ch.length τ.cap) rfl, P1 (vI τ.tips) rfl]
def mObT (bs : List Nat) (L : List Nd) : Obj := mObj vL32 (mapL bs L) L.length
def chOb (bs ch : List Nat) (sp : List Value) : Obj := .cells (chV bs ch ++ sp).toArray 84 (0, 0)
abbrev treeM (τ : Tr) : List Seg := [[(τ.bt, obj 91 (trP τ))], [(τ.bm, mObT τ.bs τ.L)], [(τ.bc, chOb τ.bs τ.ch τ.sp)], ndSeg τ.bs τ.L]

def nd (L : List Nd) (i : Nat) : Nd := L.getD i nd0
/-- what always holds: of the blocks alone -/
structure LOk (L : List Nd) : Prop where
  pos : 0 < L.length
  root : (nd L 0).ahead = none ∧ (nd L 0).height = 0
  step : ∀ i, 0 < i → i < L.length → ∃ j, (nd L i).ahead = some j ∧ j < i ∧ (nd L i).height = (nd L j).height + 1
  work : ∀ i, (nd L i).work < M256
  kids : ∀ i, (nd L i).kids ≤ L.length
  big : L.length ≤ 4096
/-- .. of the best chain -/
structure ChOk (L : List Nd) (ch : List Nat) : Prop where
  ne : 0 < ch.length
  lt : ∀ k, k < ch.length → ch.getD k 0 < L.length
  ht : ∀ k, k < ch.length → (nd L (ch.getD k 0)).height = k
  step : ∀ k, k + 1 < ch.length → (nd L (ch.getD (k + 1) 0)).ahead = some (ch.getD k 0)
structure Tr.ok (τ : Tr) : Prop where
  l : LOk τ.L
  c : ChOk τ.L τ.ch
  bs : τ.bs.length = τ.L.length
  cap : (chV τ.bs τ.ch ++ τ.sp).length = τ.cap
  tips : τ.tips ≤ τ.L.length
  nd : τ.bs.Nodup

theorem ndsFrom_get (bs : List Nat) : ∀ (L : List Nd) (k i : Nat), i < L.length → (ndsFrom bs k L)[i]? = some (bs.getD (k + i) 0, obj 86 (ndP bs (nd L i)))
  | [], _, _, h => by simp at h
  | x :: L, k, 0, _ => rfl
  | x :: L, k, i + 1, h => by
    rw [ndsFrom, List.getElem?_cons_succ, ndsFrom_get bs L (k + 1) i (by simpa using h)]
    rw [show k + 1 + i = k + (i + 1) from by omega]
    rfl
theorem ndSeg_mem (bs : List Nat) (L : List Nd) (i : Nat) (h : i < L.length) : (bs.getD i 0, obj 86 (ndP bs (nd L i))) ∈ ndSeg bs L := by
  have := ndsFrom_get bs L 0 i h
  rw [Nat.zero_add] at this
  exact List.mem_of_getElem? this
/-- block i is there -/
theorem ins_nd (τ : Tr) (i : Nat) (h : i < τ.L.length) : InS (τ.bs.getD i 0) (obj 86 (ndP τ.bs (nd τ.L i))) (treeM τ) :=
  ⟨by simp only [treeM, List.flatten_cons, List.mem_append]; exact .inr (.inr (.inr (.inl (ndSeg_mem _ _ _ h))))⟩
theorem ahead_lt {L : List Nd} (h : LOk L) {i j : Nat} (hi : i < L.length) (hj : (nd L i).ahead = some j) : j < i ∧ (nd L i).height = (nd L j).height + 1 := by
  rcases Nat.eq_zero_or_pos i with rfl | h0
  · rw [h.root.1] at hj; cases hj
  · obtain ⟨j', h1, h2, h3⟩ := h.step i h0 hi
    rw [h1] at hj
    cases hj
    exact ⟨h2, h3⟩
theorem height_le {L : List Nd} (h : LOk L) : ∀ i, i < L.length → (nd L i).height ≤ i := by
  intro i
  induction i using Nat.strongRecOn with
  | _ i ih =>
    intro hi
    rcases Nat.eq_zero_or_pos i with rfl | h0
    · rw [h.root.2]; exact Nat.le_refl _
    · obtain ⟨j, _, h2, h3⟩ := h.step i h0 hi
      have := ih j h2 (by omega)
      omega
theorem ahead_some {L : List Nd} (h : LOk L) {i : Nat} (hi : i < L.length) (hh : 0 < (nd L i).height) : ∃ j, (nd L i).ahead = some j ∧ j < i ∧ (nd L i).height = (nd L j).height + 1 := by
  rcases Nat.eq_zero_or_pos i with rfl | h0
  · rw [h.root.2] at hh; omega
  · exact h.step i h0 hi

/-- so many ahead -/
def backN (L : List Nd) : Nat → Nat → Nat
  | i, 0 => i
  | i, k + 1 => backN L ((nd L i).ahead.getD 0) k
theorem backN_lt {L : List Nd} (h : LOk L) : ∀ (k i : Nat), i < L.length → k ≤ (nd L i).height → backN L i k < L.length
  | 0, _, hi, _ => hi
  | k + 1, i, hi, hk => by
    obtain ⟨j, h1, h2, h3⟩ := ahead_some h hi (by omega)
    rw [backN, h1]
    exact backN_lt h k j (by omega) (by omega)

/-- a read of a tree is one of all that is there -/
theorem PureS.sub {P : Program} {A N : List Seg} {f : FuncId} {vs : List Value} {v : Value} (h : PureS P (Pts A) f vs v) [hs : SubM A N] : PureS P (Pts N) f vs v := fun w hw => h w fun p hp => hw p (hs.sub p hp)
instance (priority := 300) subM_left {A R M : List Seg} [h : SubM A R] : SubM A (R ++ M) := ⟨fun p hp => by rw [List.flatten_append, List.mem_append]; exact .inl (h.sub p hp)⟩
theorem pureS {P : Program} {f : FuncId} {vs : List Value} {v : Value} {S : World → Prop} (h : ∀ w, S w → Calls P f vs.toArray w (Ret fun u w' => u = v ∧ St w [] [] [] w')) : PureS P S f vs v := h

theorem tree_back (τ : Tr) (ok : τ.ok) (i k : Nat) (hi : i < τ.L.length) (hk : k ≤ (nd τ.L i).height) :
    PureS Tryz.prog (Pts (treeM τ)) 101 [ptrI τ.bs (some i), vI (k : Int)] (ptrI τ.bs (some (backN τ.L i k))) := by
  intro w hw
  have hb := ok.l.big
  have hh := height_le ok.l i hi
  refine beginR Tryz.func101 rfl Tryz.ntmps101 rfl hw ?_
  refine c_seq ?_
  refine c_region ?_
  refine seqq (o_y (y_assign rfl) rfl ?_)
  refine c_nil ?_
  refine c_seq ?_
  refine c_block ?_
  refine c_while (X := Nat × Nat) [] [] rfl (fun Ek y => (0, ptrI τ.bs (some y.1)) :: (1, vI (y.2 : Int)) :: Ek) (fun Mk y => Mk) (fun y => y.1 < τ.L.length ∧ y.2 ≤ (nd τ.L y.1).height ∧ y.2 ≤ k ∧ backN τ.L y.1 y.2 = backN τ.L i k) (fun y => y.2) (i, k) ⟨hi, hk, Nat.le_refl _, rfl⟩ ⟨rfl, rfl, trivial⟩ ?_
  intro y hy
  obtain ⟨hy1, hy2, hy3, hy4⟩ := hy
  have I1 := ins_nd τ y.1 hy1
  refine c_seq ?_
  refine c_seq ?_
  refine c_region ?_
  refine seqq (o_y (y_move rfl) rfl ?_)
  refine seqq (o_y (y_gtrZ rfl rfl) rfl ?_)
  refine c_nil ?_
  refine c_if rfl (fun h6 => ?_) (fun h6 => ?_)
  ·
    obtain ⟨j, ha1, ha2, ha3⟩ := ahead_some ok.l hy1 (show 0 < (nd τ.L y.1).height by omega)
    obtain ⟨m, hm⟩ : ∃ m, y.2 = m + 1 := ⟨y.2 - 1, by omega⟩
    refine c_skip ?_
    refine c_seq ?_
    refine c_block ?_
    refine c_region ?_
    refine seqq (o_y (y_move rfl) rfl ?_)
    refine seqq (o_y (y_nilCheck rfl) rfl ?_)
    refine seqq (o_y (y_fieldAddr Tryz.runUnderlying86 rfl Tryz.sizeOf84 rfl rfl) rfl ?_)
    refine seqq (o_y (l1 Tryz.isAgg84 rfl (by rfl)) rfl ?_)
    refine j_re 12 rfl (show _ = ptrI τ.bs (some j) from by rw [ha1]) ?_
    refine seqq (o_y (y_assign rfl) rfl ?_)
    refine c_nil ?_
    refine c_region ?_
    refine seqq (o_y (y_move rfl) rfl ?_)
    refine seqq (o_y (y_subI rfl rfl (by omega)) rfl ?_)
    refine j_re 8 rfl (show _ = vI (m : Int) from by congr 1; omega) ?_
    refine seqq (o_y (y_assign rfl) rfl ?_)
    refine c_nil ?_
    exact c_next (j, m) ⟨by dsimp only; omega, by dsimp only; omega, by dsimp only; omega, by rw [← hy4, hm, backN, ha1]; rfl⟩ (by dsimp only; omega) ⟨rfl, rfl, trivial⟩
  ·
    refine c_exit ?_
    refine c_seq ?_
    refine c_region ?_
    refine seqq (o_y (y_move rfl) rfl ?_)
    refine seqq (o_y (y_assign rfl) rfl ?_)
    refine c_nil ?_
    refine c_ret ?_
    refine c_done1 Tryz.results101 (.tmp rfl) (fun w hS => ?_)
    have h0 : y.2 = 0 := by omega
    exact ⟨by rw [← hy4, h0]; rfl, hS.none⟩

/-- the bits behind block i -/
def bitsT (r : Rl) (L : List Nd) (i : Nat) : BitVec 32 × Int :=
  if dueR r (((nd L i).height : Int) + 1) then nextR r (nd L i).h.bits (((nd L i).h.time.toNat : Int) - ((nd L (backN L i (r.every - 1).toNat)).h.time.toNat : Int)) else ((nd L i).h.bits, 0)
theorem due_back {r : Rl} {h : Nat} (hd : dueR r ((h : Int) + 1) = true) : 0 < r.every ∧ (r.every - 1).toNat ≤ h := by
  simp only [dueR, Bool.and_eq_true, decide_eq_true_eq] at hd
  obtain ⟨⟨h1, h2⟩, h3⟩ := hd
  refine ⟨h1, ?_⟩
  have h4 := Int.le_of_dvd (by omega) (Int.dvd_of_emod_eq_zero h3)
  omega

theorem tree_bits0 (τ : Tr) (ok : τ.ok) (i : Nat) (hi : i < τ.L.length) :
    PureS Tryz.prog (Pts (treeM τ)) 71 [.pointer (some ⟨τ.bt, 0, none⟩), ptrI τ.bs (some i)] (.tuple #[bv .u32 (bitsT τ.r τ.L i).1, vI (bitsT τ.r τ.L i).2]) := by
  intro w hw
  have hb := ok.l.big
  have hh := height_le ok.l i hi
  have I1 := ins_nd τ i hi
  refine beginR Tryz.func71 rfl Tryz.ntmps71 rfl hw ?_
  refine c_seq ?_
  refine c_region ?_
  refine seqq (o_y (y_assign (v := bv .u32 0#32) rfl) rfl ?_)
  refine seqq (o_y (y_assign rfl) rfl ?_)
  refine c_nil ?_
  refine c_seq ?_
  refine c_seq ?_
  refine d_reg 11 mixed rfl ?_
  refine d_y (i := 0) (k' := 1) rfl (by kernel_rfl) (y_move rfl) rfl ?_
  refine d_y (i := 1) (k' := 3) rfl (by kernel_rfl) (y_nilCheck rfl) rfl ?_
  refine d_y (i := 2) (k' := 7) rfl (by kernel_rfl) (y_fieldAddr Tryz.runUnderlying91 rfl Tryz.sizeOf30 rfl rfl) rfl ?_
  refine d_s (i := 3) (k' := 15) rfl (by kernel_rfl) (by kernel_rfl) (lN Tryz.isAgg30 Tryz.sizeOf30 rfl (by rfl)) hss rfl ?_
  refine d_y (i := 4) (k' := 31) rfl (by kernel_rfl) (y_move rfl) rfl ?_
  refine d_y (i := 5) (k' := 63) rfl (by kernel_rfl) (y_nilCheck rfl) rfl ?_
  refine d_y (i := 6) (k' := 127) rfl (by kernel_rfl) (y_fieldAddr Tryz.runUnderlying86 rfl Tryz.sizeOf3 rfl rfl) rfl ?_
  refine d_s (i := 7) (k' := 255) rfl (by kernel_rfl) (by kernel_rfl) (l1 Tryz.isAgg3 rfl (by rfl)) hss rfl ?_
  refine d_y (i := 8) (k' := 511) rfl (by kernel_rfl) (y_addI rfl rfl (by omega)) rfl ?_
  refine d_c (i := 9) (k' := 1023) rfl (by kernel_rfl) Tryz.call100 rfl (adj_Due _ _) rfl ?_
  refine d_y (i := 10) (k' := 2047) rfl (by kernel_rfl) (y_not rfl) rfl ?_
  refine d_end (by kernel_rfl) ?_
  refine c_cond rfl (fun h17 => ?_) (fun h17 => ?_)
  ·
    have hd : dueR τ.r (((nd τ.L i).height : Int) + 1) = false := by simpa using h17
    refine c_seq ?_
    refine c_region ?_
    refine seqq (o_y (y_move rfl) rfl ?_)
    refine seqq (o_y (y_nilCheck rfl) rfl ?_)
    refine seqq (o_y (y_fieldAddr Tryz.runUnderlying86 rfl Tryz.sizeOf28 rfl rfl) rfl ?_)
    refine seqq (o_y (y_fieldAddr Tryz.runUnderlying28 rfl Tryz.sizeOf22 rfl rfl) rfl ?_)
    refine seqq (o_y (l1 Tryz.isAgg22 rfl (by rfl)) rfl ?_)
    refine seqq (o_y (y_assign rfl) rfl ?_)
    refine seqq (o_y (y_assign rfl) rfl ?_)
    refine c_nil ?_
    refine c_ret ?_
    refine c_done2 Tryz.results71 (.tmp rfl) (.tmp rfl) (fun w hS => ?_)
    exact ⟨by rw [bitsT, hd]; rfl, hS.none⟩
  ·
    have hd : dueR τ.r (((nd τ.L i).height : Int) + 1) = true := by simpa using h17
    have hq := due_back hd
    have hbl := backN_lt ok.l (τ.r.every - 1).toNat i hi hq.2
    have I2 := ins_nd τ _ hbl
    refine c_skip ?_
    refine c_seq ?_
    refine c_region ?_
    refine seqq (o_y (y_move rfl) rfl ?_)
    refine seqq (o_y (y_move rfl) rfl ?_)
    refine seqq (o_y (y_nilCheck rfl) rfl ?_)
    refine seqq (o_y (y_fieldAddr Tryz.runUnderlying91 rfl Tryz.sizeOf30 rfl rfl) rfl ?_)
    refine seqq (o_y (y_fieldAddr Tryz.runUnderlying30 rfl Tryz.sizeOf3 rfl rfl) rfl ?_)
    refine seqq (o_y (l1 Tryz.isAgg3 rfl (by rfl)) rfl ?_)
    refine seqq (o_y (y_subI rfl rfl (by omega)) rfl ?_)
    refine j_re 29 rfl (show _ = vI ((τ.r.every - 1).toNat : Int) from by congr 1; omega) ?_
    refine seqq (o_pureS Tryz.call101 rfl (PureS.sub (tree_back τ ok i (τ.r.every - 1).toNat hi hq.2)) rfl ?_)
    refine seqq (o_y (y_assign rfl) rfl ?_)
    refine c_nil ?_
    refine c_seq ?_
    refine d_reg 25 mixed rfl ?_
    refine d_y (i := 0) (k' := 1) rfl (by kernel_rfl) (y_move rfl) rfl ?_
    refine d_y (i := 1) (k' := 3) rfl (by kernel_rfl) (y_nilCheck rfl) rfl ?_
    refine d_y (i := 2) (k' := 7) rfl (by kernel_rfl) (y_fieldAddr Tryz.runUnderlying91 rfl Tryz.sizeOf30 rfl rfl) rfl ?_
    refine d_s (i := 3) (k' := 15) rfl (by kernel_rfl) (by kernel_rfl) (lN Tryz.isAgg30 Tryz.sizeOf30 rfl (by rfl)) hss rfl ?_
    refine d_y (i := 4) (k' := 31) rfl (by kernel_rfl) (y_move rfl) rfl ?_
    refine d_y (i := 5) (k' := 63) rfl (by kernel_rfl) (y_nilCheck rfl) rfl ?_
    refine d_y (i := 6) (k' := 127) rfl (by kernel_rfl) (y_fieldAddr Tryz.runUnderlying86 rfl Tryz.sizeOf28 rfl rfl) rfl ?_
    refine d_y (i := 7) (k' := 255) rfl (by kernel_rfl) (y_fieldAddr Tryz.runUnderlying28 rfl Tryz.sizeOf22 rfl rfl) rfl ?_
    refine d_s (i := 8) (k' := 511) rfl (by kernel_rfl) (by kernel_rfl) (l1 Tryz.isAgg22 rfl (by rfl)) hss rfl ?_
    refine d_y (i := 9) (k' := 1023) rfl (by kernel_rfl) (y_move rfl) rfl ?_
    refine d_y (i := 10) (k' := 2047) rfl (by kernel_rfl) (y_nilCheck rfl) rfl ?_
    refine d_y (i := 11) (k' := 4095) rfl (by kernel_rfl) (y_fieldAddr Tryz.runUnderlying86 rfl Tryz.sizeOf28 rfl rfl) rfl ?_
    refine d_y (i := 12) (k' := 8191) rfl (by kernel_rfl) (y_fieldAddr Tryz.runUnderlying28 rfl Tryz.sizeOf22 rfl rfl) rfl ?_
    refine d_s (i := 13) (k' := 16383) rfl (by kernel_rfl) (by kernel_rfl) (l1 Tryz.isAgg22 rfl (by rfl)) hss rfl ?_
    refine d_y (i := 14) (k' := 32767) rfl (by kernel_rfl) (y_convBI Tryz.runUnderlying22 Tryz.runUnderlying2 rfl (cvu32 _)) rfl ?_
    refine d_y (i := 15) (k' := 65535) rfl (by kernel_rfl) (y_move rfl) rfl ?_
    refine d_y (i := 16) (k' := 131071) rfl (by kernel_rfl) (y_nilCheck rfl) rfl ?_
    refine d_y (i := 17) (k' := 262143) rfl (by kernel_rfl) (y_fieldAddr Tryz.runUnderlying86 rfl Tryz.sizeOf28 rfl rfl) rfl ?_
    refine d_y (i := 18) (k' := 524287) rfl (by kernel_rfl) (y_fieldAddr Tryz.runUnderlying28 rfl Tryz.sizeOf22 rfl rfl) rfl ?_
    refine d_s (i := 19) (k' := 1048575) rfl (by kernel_rfl) (by kernel_rfl) (l1 Tryz.isAgg22 rfl (by rfl)) hss rfl ?_
    refine d_y (i := 20) (k' := 2097151) rfl (by kernel_rfl) (y_convBI Tryz.runUnderlying22 Tryz.runUnderlying2 rfl (cvu32 _)) rfl ?_
    refine d_y (i := 21) (k' := 4194303) rfl (by kernel_rfl) (y_subI rfl rfl (by have h1 := (nd τ.L i).h.time.isLt; have h2 := (nd τ.L (backN τ.L i (τ.r.every - 1).toNat)).h.time.isLt; omega)) rfl ?_
    refine d_c (i := 22) (k' := 8388607) rfl (by kernel_rfl) Tryz.call102 rfl (adj_Next _ _ _) rfl ?_
    refine d_y (i := 23) (k' := 16777215) rfl (by kernel_rfl) (y_extract rfl rfl) rfl ?_
    refine d_y (i := 24) (k' := 33554431) rfl (by kernel_rfl) (y_extract rfl rfl) rfl ?_
    refine d_y (i := 25) (k' := 67108863) rfl (by kernel_rfl) (y_assign rfl) rfl ?_
    refine d_y (i := 26) (k' := 134217727) rfl (by kernel_rfl) (y_assign rfl) rfl ?_
    refine d_end (by kernel_rfl) ?_
    refine c_ret ?_
    refine c_done2 Tryz.results71 (.tmp rfl) (.tmp rfl) (fun w hS => ?_)
    exact ⟨by rw [bitsT, hd]; rfl, hS.none⟩

/-- times of a block and those ahead of it -/
def timesT (L : List Nd) : Option Nat → Nat → List (BitVec 32)
  | none, _ => []
  | some _, 0 => []
  | some i, n + 1 => (nd L i).h.time :: timesT L (nd L i).ahead n
def medT (L : List Nd) (i : Nat) : BitVec 32 := medW (timesT L (some i) 11)
theorem timesT_zero (L : List Nd) (o : Option Nat) : timesT L o 0 = [] := by cases o <;> rfl

theorem tree_median (τ : Tr) (ok : τ.ok) (i : Nat) (hi : i < τ.L.length) :
    PureS Tryz.prog (Pts (treeM τ)) 73 [ptrI τ.bs (some i)] (bv .u32 (medT τ.L i)) := by
  intro w hw
  have hb := ok.l.big
  refine beginR Tryz.func73 rfl Tryz.ntmps73 rfl hw ?_
  refine c_seq ?_
  refine c_region ?_
  refine seqq (o_y (y_assign (v := bv .u32 0#32) rfl) rfl ?_)
  refine c_nil ?_
  refine c_seq ?_
  refine c_region ?_
  refine seqq (o_y (y_assign rfl) rfl ?_)
  refine j_nilseg (T := 22) (cs := Wd []) ?_
  refine c_nil ?_
  refine c_seq ?_
  refine c_block ?_
  refine c_while (X := Option Nat × VG × List (BitVec 32)) [] [] rfl (fun Ek y => (0, ptrI τ.bs y.1) :: (3, y.2.1.val y.2.2.length) :: Ek) (fun Mk y => y.2.1.seg 22 (Wd y.2.2) :: Mk) (fun y => (∀ j, y.1 = some j → j < τ.L.length) ∧ y.2.2.length ≤ 11 ∧ y.2.1.ok 1 y.2.2.length (Wd y.2.2) ∧ y.2.2 ++ timesT τ.L y.1 (11 - y.2.2.length) = timesT τ.L (some i) 11) (fun y => 11 - y.2.2.length) (some i, VG.nil, []) ⟨fun j hj => by cases hj; exact hi, Nat.zero_le _, ⟨rfl, rfl⟩, rfl⟩ ⟨rfl, rfl, trivial⟩ ?_
  intro y hy
  obtain ⟨hy1, hy2, hy3, hy4⟩ := hy
  refine c_seq ?_
  refine c_seq ?_
  refine c_region ?_
  refine seqq (o_y (y_move rfl) rfl ?_)
  refine seqq (o_y (y_neqNilP Tryz.runUnderlying84 rfl rfl) rfl ?_)
  refine seqq (o_y (y_move rfl) rfl ?_)
  refine j_bool 6 rfl (fun h6 => ?_) (fun h6 => ?_)
  ·
    obtain ⟨j, hj⟩ := ptrA_some h6
    have I1 := ins_nd τ j (hy1 j hj)
    refine seqq (guard_true rfl rfl (o_y (y_move rfl) rfl ?_))
    refine seqq (guard_true rfl rfl (o_y (y_lenG Tryz.runUnderlying152 rfl hy3) rfl ?_))
    refine seqq (guard_true rfl rfl (o_y (y_lssZ rfl rfl) rfl ?_))
    refine seqq (o_y (y_pick_t rfl rfl) rfl ?_)
    refine c_nil ?_
    refine c_if rfl (fun h10 => ?_) (fun h10 => ?_)
    ·
      refine j_re 0 rfl (show _ = ptrI τ.bs (some j) from by rw [hj]) ?_
      refine c_skip ?_
      refine c_seq ?_
      refine c_block ?_
      refine c_region ?_
      refine seqq (o_y (y_move rfl) rfl ?_)
      refine seqq (o_y (y_move rfl) rfl ?_)
      refine seqq (o_y (y_nilCheck rfl) rfl ?_)
      refine seqq (o_y (y_fieldAddr Tryz.runUnderlying86 rfl Tryz.sizeOf28 rfl rfl) rfl ?_)
      refine seqq (o_y (y_fieldAddr Tryz.runUnderlying28 rfl Tryz.sizeOf22 rfl rfl) rfl ?_)
      refine seqq (o_y (l1 Tryz.isAgg22 rfl (by rfl)) rfl ?_)
      refine seqq (o_buildSlice (zs := [P1 (bv .u32 0#32)]) Tryz.runUnderlying152 Tryz.sizeOf22 Tryz.zeroValue22 (by kernel_rfl) rfl rfl (.one rfl rfl .nil) (by rfl) rfl (fun b21 => ?_))
      refine seqq (o_appW (ws := y.2.2) (x32 := (nd τ.L j).h.time) y.2.1 Tryz.runUnderlying152 Tryz.sizeOf22 Tryz.zeroValue22 (by kernel_rfl) Tryz.typeInfo22 rfl Tryz.runUnderlying152 rfl rfl rfl rfl hy3 (by rfl) (by omega) rfl (fun g2 hg2 => ?_))
      refine seqq (o_y (y_assign rfl) rfl ?_)
      refine j_nilseg (T := 22) (cs := Wd []) ?_
      refine c_nil ?_
      refine c_region ?_
      refine seqq (o_y (y_move rfl) rfl ?_)
      refine seqq (o_y (y_nilCheck rfl) rfl ?_)
      refine seqq (o_y (y_fieldAddr Tryz.runUnderlying86 rfl Tryz.sizeOf84 rfl rfl) rfl ?_)
      refine seqq (o_y (l1 Tryz.isAgg84 rfl (by rfl)) rfl ?_)
      refine seqq (o_y (y_assign rfl) rfl ?_)
      refine c_nil ?_
      exact c_next ((nd τ.L j).ahead, g2, y.2.2 ++ [(nd τ.L j).h.time]) ⟨fun k hk => by have := (ahead_lt ok.l (hy1 j hj) hk).1; have := hy1 j hj; omega, by simp; omega, hg2, by rw [← hy4, hj, show 11 - y.2.2.length = (11 - (y.2.2 ++ [(nd τ.L j).h.time]).length) + 1 from by simp; omega, timesT]; simp⟩ (by simp; omega) ⟨rfl, rfl, trivial⟩
    ·
      refine c_exit ?_
      refine c_seq ?_
      refine c_region ?_
      refine seqq (o_y (y_move rfl) rfl ?_)
      refine seqq (o_pureS Tryz.call103 rfl (fun w hw => adj_Median0 y.2.1 y.2.2 hy3 (by omega) w (fun p hp => hw p (sub_right (N := [y.2.1.seg 22 (Wd y.2.2)]) p hp))) rfl ?_)
      refine seqq (o_y (y_assign rfl) rfl ?_)
      refine c_nil ?_
      refine c_ret ?_
      refine c_done1 Tryz.results73 (.tmp rfl) (fun w hS => ?_)
      exact ⟨by rw [medT, ← hy4, show 11 - y.2.2.length = 0 from by omega, timesT_zero, List.append_nil], hS.none⟩
  ·
    have hj := ptrA_none h6
    refine seqq (guard_false (c := false) rfl rfl rfl rfl ?_)
    refine seqq (guard_false (c := false) rfl rfl rfl rfl ?_)
    refine seqq (guard_false (c := false) rfl rfl rfl rfl ?_)
    refine seqq (o_y (y_pick_f rfl rfl) rfl ?_)
    refine c_nil ?_
    refine c_condF rfl ?_
    refine c_exit ?_
    refine c_seq ?_
    refine c_region ?_
    refine seqq (o_y (y_move rfl) rfl ?_)
    refine seqq (o_pureS Tryz.call103 rfl (fun w hw => adj_Median0 y.2.1 y.2.2 hy3 (by omega) w (fun p hp => hw p (sub_right (N := [y.2.1.seg 22 (Wd y.2.2)]) p hp))) rfl ?_)
    refine seqq (o_y (y_assign rfl) rfl ?_)
    refine c_nil ?_
    refine c_ret ?_
    refine c_done1 Tryz.results73 (.tmp rfl) (fun w hS => ?_)
    exact ⟨by rw [medT, ← hy4, hj]; simp [timesT], hS.none⟩

/-! ### what is found by a hash -/
def findF (k : H32) : List Nd → Nat → Option Nat
  | [], _ => none
  | x :: l, i => if k = hashH x.h then some i else findF k l (i + 1)
def findT (L : List Nd) (k : H32) : Option Nat := findF k L 0
theorem findF_map (bs : List Nat) (k : H32) : ∀ (L : List Nd) (i j : Nat), (mFind k (mapFrom bs i L) j).map (·.2) = (findF k L i).map fun q => ptrI bs (some q)
  | [], _, _ => rfl
  | x :: L, i, j => by
    simp only [mapFrom, mFind, findF]
    split
    · rfl
    · exact findF_map bs k L (i + 1) (j + 1)
theorem findF_spec (k : H32) : ∀ (L : List Nd) (i q : Nat), findF k L i = some q → i ≤ q ∧ q < i + L.length ∧ hashH (nd L (q - i)).h = k
  | [], _, _, h => by cases h
  | x :: L, i, q, h => by
    simp only [findF] at h
    split at h
    · rename_i hk
      cases h
      refine ⟨Nat.le_refl _, by simp, ?_⟩
      rw [Nat.sub_self]; exact hk.symm
    · obtain ⟨h1, h2, h3⟩ := findF_spec k L (i + 1) q h
      refine ⟨by omega, by simp; omega, ?_⟩
      have : q - i = (q - (i + 1)) + 1 := by omega
      rw [this]
      exact h3
theorem findT_spec {L : List Nd} {k : H32} {q : Nat} (h : findT L k = some q) : q < L.length ∧ hashH (nd L q).h = k := by
  obtain ⟨_, h2, h3⟩ := findF_spec k L 0 q h
  exact ⟨by omega, h3⟩
theorem keyH : KeyR Tryz.prog 26 vL32 := keyR32 (ei := Tryz.t5) Tryz.underlying26 Tryz.underlying5 Tryz.isAgg5 Tryz.sizeOf5 (by kernel_rfl) (by kernel_rfl)
theorem look_val (bs : List Nat) (L : List Nd) (k : H32) : ((mFind k (mapL bs L) 0).map (·.2)).getD (.pointer none) = ptrI bs (findT L k) := by
  rw [mapL, findF_map, findT]
  cases findF k L 0 <;> rfl
theorem look_is (bs : List Nat) (L : List Nd) (k : H32) : (mFind k (mapL bs L) 0).isSome = (findT L k).isSome := by
  have := findF_map bs k L 0 0
  rw [findT, mapL]
  cases h1 : mFind k (mapFrom bs 0 L) 0 <;> cases h2 : findF k L 0 <;> simp_all
theorem y_lookT {E : Env} {x y : Operand} {N : List Seg} {bm : Nat} {bs : List Nat} {L : List Nd} (k : H32) (hx : val E x = some (.map (some bm))) (hy : val E y = some (vL32 k)) [hm : InS bm (mObT bs L) N] :
    Yl Tryz.prog (Pts N) E (.lookup 88 x y true) (.tuple #[ptrI bs (findT L k), .bool (findT L k).isSome]) := by
  have := y_lookupOk (S := Pts N) (f := vL32) (l := mapL bs L) (c := L.length) (zv := .pointer none) Tryz.runUnderlying88 keyH Tryz.zeroValue84 hx hy (fun w hw => hw _ hm.mem)
  rw [look_val, look_is] at this
  exact this
theorem y_lookT1 {E : Env} {x y : Operand} {N : List Seg} {bm : Nat} {bs : List Nat} {L : List Nd} (k : H32) (hx : val E x = some (.map (some bm))) (hy : val E y = some (vL32 k)) [hm : InS bm (mObT bs L) N] :
    Yl Tryz.prog (Pts N) E (.lookup 88 x y false) (ptrI bs (findT L k)) := by
  have := y_lookup1 (S := Pts N) (f := vL32) (l := mapL bs L) (c := L.length) (zv := .pointer none) Tryz.runUnderlying88 keyH Tryz.zeroValue84 hx hy (fun w hw => hw _ hm.mem)
  rw [look_val] at this
  exact this
theorem mapFrom_len (bs : List Nat) : ∀ (L : List Nd) (i : Nat), (mapFrom bs i L).length = L.length
  | [], _ => rfl
  | x :: L, i => by simp [mapFrom, mapFrom_len bs L (i + 1)]
theorem y_lenT {E : Env} {x : Operand} {N : List Seg} {bm : Nat} {bs : List Nat} {L : List Nd} {tys : Array TypeId} (hx : val E x = some (.map (some bm))) [hm : InS bm (mObT bs L) N] :
    Yl Tryz.prog (Pts N) E (.call ⟨.builtin .len, #[x], #[88]⟩) (vI (L.length : Int)) := by
  have := y_lenM (P := Tryz.prog) (S := Pts N) (f := vL32) (l := mapL bs L) (c := L.length) (tys := tys) Tryz.runUnderlying88 hx (fun w hw => hw _ hm.mem)
  rwa [mapL, mapFrom_len] at this
/-- the chain's cells -/
theorem ch_get {bs ch : List Nat} {sp : List Value} {k : Nat} (h : k < ch.length) : (chV bs ch ++ sp)[k]? = some (ptrI bs (some (ch.getD k 0))) := by
  rw [List.getElem?_append_left (by simpa [chV] using h)]
  simp [chV, List.getElem?_map, List.getElem?_eq_getElem h]
theorem l_ch {E : Env} {x : Operand} {N : List Seg} {bc o : Nat} {bs ch : List Nat} {sp : List Value} (k : Nat) (hx : val E x = some (.pointer (some ⟨bc, o, none⟩))) (ho : o = k) (hk : k < ch.length) [hm : InS bc (chOb bs ch sp) N] :
    Yl Tryz.prog (Pts N) E (.load 84 x) (ptrI bs (some (ch.getD k 0))) :=
  lC (hm := ⟨hm.mem⟩) Tryz.isAgg84 k hx ho (ch_get hk)
def bestI (ch : List Nat) : Nat := ch.getD (ch.length - 1) 0
theorem ch_le {L : List Nd} {ch : List Nat} (hL : LOk L) (h : ChOk L ch) : ch.length ≤ L.length := by
  have h0 := h.ne
  have h1 := h.lt (ch.length - 1) (by omega)
  have h2 := h.ht (ch.length - 1) (by omega)
  have h3 := height_le hL _ h1
  omega
theorem bestI_lt {L : List Nd} {ch : List Nat} (h : ChOk L ch) : bestI ch < L.length := h.lt _ (by have := h.ne; omega)

theorem tree_best (τ : Tr) (ok : τ.ok) :
    PureS Tryz.prog (Pts (treeM τ)) 41 [.pointer (some ⟨τ.bt, 0, none⟩)] (ptrI τ.bs (some (bestI τ.ch))) := by
  intro w hw
  have hb := ok.l.big
  have hn := ok.c.ne
  have hcl := ch_le ok.l ok.c
  refine beginR Tryz.func41 rfl Tryz.ntmps41 rfl hw ?_
  refine c_seq ?_
  refine c_region ?_
  refine seqq (o_y (y_assign rfl) rfl ?_)
  refine c_nil ?_
  refine c_seq ?_
  refine d_reg 12 mixed rfl ?_
  refine d_y (i := 0) (k' := 1) rfl (by kernel_rfl) (y_move rfl) rfl ?_
  refine d_y (i := 1) (k' := 3) rfl (by kernel_rfl) (y_nilCheck rfl) rfl ?_
  refine d_y (i := 2) (k' := 7) rfl (by kernel_rfl) (y_fieldAddr Tryz.runUnderlying91 rfl Tryz.sizeOf89 rfl rfl) rfl ?_
  refine d_s (i := 3) (k' := 15) rfl (by kernel_rfl) (by kernel_rfl) (l1 Tryz.isAgg89 rfl (by rfl)) hss rfl ?_
  refine d_y (i := 4) (k' := 31) rfl (by kernel_rfl) (y_move rfl) rfl ?_
  refine d_y (i := 5) (k' := 63) rfl (by kernel_rfl) (y_nilCheck rfl) rfl ?_
  refine d_y (i := 6) (k' := 127) rfl (by kernel_rfl) (y_fieldAddr Tryz.runUnderlying91 rfl Tryz.sizeOf89 rfl rfl) rfl ?_
  refine d_s (i := 7) (k' := 255) rfl (by kernel_rfl) (by kernel_rfl) (l1 Tryz.isAgg89 rfl (by rfl)) hss rfl ?_
  refine d_y (i := 8) (k' := 511) rfl (by kernel_rfl) (y_len (tys := #[]) Tryz.runUnderlying89 rfl) rfl ?_
  refine d_y (i := 9) (k' := 1023) rfl (by kernel_rfl) (y_subI rfl rfl (by omega)) rfl ?_
  refine d_y (i := 10) (k' := 2047) rfl (by kernel_rfl) (y_indexAddrS Tryz.runUnderlying89 Tryz.sizeOf84 rfl rfl (by omega)) rfl ?_
  refine d_s (i := 11) (k' := 4095) rfl (by kernel_rfl) (by kernel_rfl) (l_ch (τ.ch.length - 1) rfl (by omega) (by omega)) hss rfl ?_
  refine d_y (i := 12) (k' := 8191) rfl (by kernel_rfl) (y_assign rfl) rfl ?_
  refine d_end (by kernel_rfl) ?_
  refine c_ret ?_
  refine c_done1 Tryz.results41 (.tmp rfl) (fun w hS => ?_)
  exact ⟨rfl, hS.none⟩

theorem tree_Best (τ : Tr) (ok : τ.ok) :
    PureS Tryz.prog (Pts (treeM τ)) 14 [.pointer (some ⟨τ.bt, 0, none⟩)] (vH (hashH (nd τ.L (bestI τ.ch)).h)) := by
  intro w hw
  have I1 := ins_nd τ (bestI τ.ch) (bestI_lt ok.c)
  refine beginR Tryz.func14 rfl Tryz.ntmps14 rfl hw ?_
  refine c_seq ?_
  refine c_region ?_
  refine seqq (o_alloc (ps := [hP h0]) Tryz.zeroValue26 (by kernel_rfl) rfl (fun b2 => ?_))
  refine c_nil ?_
  refine c_seq ?_
  refine c_seq ?_
  refine c_region ?_
  refine seqq (o_y (y_move rfl) rfl ?_)
  refine seqq (o_y (y_eqlNilPk (v := false) Tryz.runUnderlying32 rfl rfl rfl) rfl ?_)
  refine c_nil ?_
  refine c_condF rfl ?_
  refine c_skip ?_
  refine c_seq ?_
  refine c_region ?_
  refine seqq (o_y (y_move rfl) rfl ?_)
  refine seqq (o_pureS Tryz.call41 rfl (PureS.sub (tree_best τ ok)) rfl ?_)
  refine seqq (o_y (y_nilCheck rfl) rfl ?_)
  refine seqq (o_y (y_fieldAddr Tryz.runUnderlying86 rfl Tryz.sizeOf26 rfl rfl) rfl ?_)
  refine seqq (o_y (lN Tryz.isAgg26 Tryz.sizeOf26 rfl (by rfl)) rfl ?_)
  refine seqq (stN Tryz.sizeOf26 rfl rfl (by rfl) rfl (by rfl) ?_)
  refine c_nil ?_
  refine c_ret ?_
  refine c_done1 Tryz.results14 (rN Tryz.isAgg26 Tryz.sizeOf26 rfl (by rfl)) (fun w hS => ?_)
  exact ⟨rfl, hS.none⟩

def heightT (L : List Nd) (h : H32) : Int := match findT L h with
  | none => 0
  | some i => ((nd L i).height : Int)
def headerT (L : List Nd) (h : H32) : Hd := match findT L h with
  | none => hd0
  | some i => (nd L i).h
def workT' (L : List Nd) (h : H32) : Nat := match findT L h with
  | none => 0
  | some i => (nd L i).work
def bitsH (r : Rl) (L : List Nd) (h : H32) : BitVec 32 × Int := match findT L h with
  | none => (0#32, 8)
  | some i => bitsT r L i

theorem tree_Height (τ : Tr) (ok : τ.ok) (h : H32) :
    PureS Tryz.prog (Pts (treeM τ)) 31 [.pointer (some ⟨τ.bt, 0, none⟩), vH h] (.tuple #[vI (heightT τ.L h), .bool (findT τ.L h).isSome]) := by
  intro w hw
  refine beginR Tryz.func31 rfl Tryz.ntmps31 rfl hw ?_
  refine c_seq ?_
  refine c_region ?_
  refine seqq (o_box (T := 26) rfl (IsP.agg).cells rfl (fun b3 => ?_))
  refine seqq (o_y (y_assign rfl) rfl ?_)
  refine seqq (o_y (y_assign rfl) rfl ?_)
  refine c_nil ?_
  refine c_seq ?_
  refine c_seq ?_
  refine c_region ?_
  refine seqq (o_y (y_move rfl) rfl ?_)
  refine seqq (o_y (y_eqlNilPk (v := false) Tryz.runUnderlying32 rfl rfl rfl) rfl ?_)
  refine c_nil ?_
  refine c_condF rfl ?_
  refine c_skip ?_
  refine c_seq ?_
  refine d_reg 9 mixed rfl ?_
  refine d_y (i := 0) (k' := 1) rfl (by kernel_rfl) (y_move rfl) rfl ?_
  refine d_y (i := 1) (k' := 3) rfl (by kernel_rfl) (y_nilCheck rfl) rfl ?_
  refine d_y (i := 2) (k' := 7) rfl (by kernel_rfl) (y_fieldAddr Tryz.runUnderlying91 rfl Tryz.sizeOf88 rfl rfl) rfl ?_
  refine d_s (i := 3) (k' := 15) rfl (by kernel_rfl) (by kernel_rfl) (l1 Tryz.isAgg88 rfl (by rfl)) hss rfl ?_
  refine d_s (i := 4) (k' := 31) rfl (by kernel_rfl) (by kernel_rfl) (lN Tryz.isAgg26 Tryz.sizeOf26 rfl (by rfl)) hss rfl ?_
  refine d_s (i := 5) (k' := 63) rfl (by kernel_rfl) (by kernel_rfl) (y_lookT h rfl rfl) hss rfl ?_
  refine d_y (i := 6) (k' := 127) rfl (by kernel_rfl) (y_move rfl) rfl ?_
  refine d_y (i := 7) (k' := 255) rfl (by kernel_rfl) (y_extract rfl rfl) rfl ?_
  refine d_y (i := 8) (k' := 511) rfl (by kernel_rfl) (y_extract rfl rfl) rfl ?_
  refine d_y (i := 9) (k' := 1023) rfl (by kernel_rfl) (y_assign rfl) rfl ?_
  refine d_y (i := 10) (k' := 2047) rfl (by kernel_rfl) (y_assign rfl) rfl ?_
  refine d_end (by kernel_rfl) ?_
  refine c_seq ?_
  refine c_seq ?_
  refine c_region ?_
  refine seqq (o_y (y_move rfl) rfl ?_)
  refine seqq (o_y (y_not rfl) rfl ?_)
  refine c_nil ?_
  refine c_cond rfl (fun h20 => ?_) (fun h20 => ?_)
  ·
    have hs : findT τ.L h = none := by simpa using h20
    refine c_seq ?_
    refine c_region ?_
    refine seqq (o_y (y_assign rfl) rfl ?_)
    refine seqq (o_y (y_assign rfl) rfl ?_)
    refine c_nil ?_
    refine c_ret ?_
    refine c_done2 Tryz.results31 (.tmp rfl) (.tmp rfl) (fun w hS => ?_)
    exact ⟨by simp only [heightT, hs] <;> rfl, hS.none⟩
  ·
    have hs : (findT τ.L h).isSome = true := by simpa using h20
    obtain ⟨i, hi⟩ := Option.isSome_iff_exists.1 hs
    have I1 := ins_nd τ i (findT_spec hi).1
    refine j_re 6 rfl (show _ = ptrI τ.bs (some i) from by rw [hi]) ?_
    refine c_skip ?_
    refine c_seq ?_
    refine c_region ?_
    refine seqq (o_y (y_move rfl) rfl ?_)
    refine seqq (o_y (y_nilCheck rfl) rfl ?_)
    refine seqq (o_y (y_fieldAddr Tryz.runUnderlying86 rfl Tryz.sizeOf3 rfl rfl) rfl ?_)
    refine seqq (o_y (l1 Tryz.isAgg3 rfl (by rfl)) rfl ?_)
    refine seqq (o_y (y_assign rfl) rfl ?_)
    refine seqq (o_y (y_assign rfl) rfl ?_)
    refine c_nil ?_
    refine c_ret ?_
    refine c_done2 Tryz.results31 (.tmp rfl) (.tmp rfl) (fun w hS => ?_)
    exact ⟨by simp only [heightT, hi] <;> rfl, hS.none⟩

theorem tree_Header (τ : Tr) (ok : τ.ok) (h : H32) :
    PureS Tryz.prog (Pts (treeM τ)) 58 [.pointer (some ⟨τ.bt, 0, none⟩), vH h] (.tuple #[vHd (headerT τ.L h), .bool (findT τ.L h).isSome]) := by
  intro w hw
  refine beginR Tryz.func58 rfl Tryz.ntmps58 rfl hw ?_
  refine c_seq ?_
  refine c_region ?_
  refine seqq (o_box (T := 26) rfl (IsP.agg).cells rfl (fun b3 => ?_))
  refine seqq (o_alloc (ps := (hdP hd0)) Tryz.zeroValue28 (by kernel_rfl) rfl (fun b4 => ?_))
  refine seqq (o_y (y_assign rfl) rfl ?_)
  refine c_nil ?_
  refine c_seq ?_
  refine c_seq ?_
  refine c_region ?_
  refine seqq (o_y (y_move rfl) rfl ?_)
  refine seqq (o_y (y_eqlNilPk (v := false) Tryz.runUnderlying32 rfl rfl rfl) rfl ?_)
  refine c_nil ?_
  refine c_condF rfl ?_
  refine c_skip ?_
  refine c_seq ?_
  refine d_reg 9 mixed rfl ?_
  refine d_y (i := 0) (k' := 1) rfl (by kernel_rfl) (y_move rfl) rfl ?_
  refine d_y (i := 1) (k' := 3) rfl (by kernel_rfl) (y_nilCheck rfl) rfl ?_
  refine d_y (i := 2) (k' := 7) rfl (by kernel_rfl) (y_fieldAddr Tryz.runUnderlying91 rfl Tryz.sizeOf88 rfl rfl) rfl ?_
  refine d_s (i := 3) (k' := 15) rfl (by kernel_rfl) (by kernel_rfl) (l1 Tryz.isAgg88 rfl (by rfl)) hss rfl ?_
  refine d_s (i := 4) (k' := 31) rfl (by kernel_rfl) (by kernel_rfl) (lN Tryz.isAgg26 Tryz.sizeOf26 rfl (by rfl)) hss rfl ?_
  refine d_s (i := 5) (k' := 63) rfl (by kernel_rfl) (by kernel_rfl) (y_lookT h rfl rfl) hss rfl ?_
  refine d_y (i := 6) (k' := 127) rfl (by kernel_rfl) (y_move rfl) rfl ?_
  refine d_y (i := 7) (k' := 255) rfl (by kernel_rfl) (y_extract rfl rfl) rfl ?_
  refine d_y (i := 8) (k' := 511) rfl (by kernel_rfl) (y_extract rfl rfl) rfl ?_
  refine d_y (i := 9) (k' := 1023) rfl (by kernel_rfl) (y_assign rfl) rfl ?_
  refine d_y (i := 10) (k' := 2047) rfl (by kernel_rfl) (y_assign rfl) rfl ?_
  refine d_end (by kernel_rfl) ?_
  refine c_seq ?_
  refine c_seq ?_
  refine c_region ?_
  refine seqq (o_y (y_move rfl) rfl ?_)
  refine seqq (o_y (y_not rfl) rfl ?_)
  refine c_nil ?_
  refine c_cond rfl (fun h21 => ?_) (fun h21 => ?_)
  ·
    have hs : findT τ.L h = none := by simpa using h21
    refine c_seq ?_
    refine c_region ?_
    refine seqq (o_y (y_build (zs := (hdP hd0)) (pl := [(0, 1), (1, 32), (33, 32), (65, 1), (66, 1), (67, 1)]) Tryz.runUnderlying28 Tryz.zeroValue28 (by kernel_rfl) (fun w => by kernel_rfl) .nil (by rfl)) rfl ?_)
    refine seqq (stN Tryz.sizeOf28 rfl rfl (by rfl) rfl (by rfl) ?_)
    refine seqq (o_y (y_assign rfl) rfl ?_)
    refine c_nil ?_
    refine c_ret ?_
    refine c_done2 Tryz.results58 (rN Tryz.isAgg28 Tryz.sizeOf28 rfl (by rfl)) (.tmp rfl) (fun w hS => ?_)
    exact ⟨by simp only [headerT, hs] <;> rfl, hS.none⟩
  ·
    have hs : (findT τ.L h).isSome = true := by simpa using h21
    obtain ⟨i, hi⟩ := Option.isSome_iff_exists.1 hs
    have I1 := ins_nd τ i (findT_spec hi).1
    refine j_re 6 rfl (show _ = ptrI τ.bs (some i) from by rw [hi]) ?_
    refine c_skip ?_
    refine c_seq ?_
    refine c_region ?_
    refine seqq (o_y (y_move rfl) rfl ?_)
    refine seqq (o_y (y_nilCheck rfl) rfl ?_)
    refine seqq (o_y (y_fieldAddr Tryz.runUnderlying86 rfl Tryz.sizeOf28 rfl rfl) rfl ?_)
    refine seqq (o_y (lN Tryz.isAgg28 Tryz.sizeOf28 rfl (by rfl)) rfl ?_)
    refine seqq (stN Tryz.sizeOf28 rfl rfl (by rfl) rfl (by rfl) ?_)
    refine seqq (o_y (y_assign rfl) rfl ?_)
    refine c_nil ?_
    refine c_ret ?_
    refine c_done2 Tryz.results58 (rN Tryz.isAgg28 Tryz.sizeOf28 rfl (by rfl)) (.tmp rfl) (fun w hS => ?_)
    exact ⟨by simp only [headerT, hi] <;> rfl, hS.none⟩

theorem tree_Work (τ : Tr) (ok : τ.ok) (h : H32) :
    PureS Tryz.prog (Pts (treeM τ)) 13 [.pointer (some ⟨τ.bt, 0, none⟩), vH h] (vW (workT' τ.L h)) := by
  intro w hw
  refine beginR Tryz.func13 rfl Tryz.ntmps13 rfl hw ?_
  refine c_seq ?_
  refine c_region ?_
  refine seqq (o_box (T := 26) rfl (IsP.agg).cells rfl (fun b3 => ?_))
  refine seqq (o_alloc (ps := wideN 0) Tryz.zeroValue51 (by kernel_rfl) rfl (fun b4 => ?_))
  refine c_nil ?_
  refine c_seq ?_
  refine c_seq ?_
  refine c_region ?_
  refine seqq (o_y (y_move rfl) rfl ?_)
  refine seqq (o_y (y_eqlNilPk (v := false) Tryz.runUnderlying32 rfl rfl rfl) rfl ?_)
  refine c_nil ?_
  refine c_condF rfl ?_
  refine c_skip ?_
  refine c_seq ?_
  refine d_reg 9 mixed rfl ?_
  refine d_y (i := 0) (k' := 1) rfl (by kernel_rfl) (y_move rfl) rfl ?_
  refine d_y (i := 1) (k' := 3) rfl (by kernel_rfl) (y_nilCheck rfl) rfl ?_
  refine d_y (i := 2) (k' := 7) rfl (by kernel_rfl) (y_fieldAddr Tryz.runUnderlying91 rfl Tryz.sizeOf88 rfl rfl) rfl ?_
  refine d_s (i := 3) (k' := 15) rfl (by kernel_rfl) (by kernel_rfl) (l1 Tryz.isAgg88 rfl (by rfl)) hss rfl ?_
  refine d_s (i := 4) (k' := 31) rfl (by kernel_rfl) (by kernel_rfl) (lN Tryz.isAgg26 Tryz.sizeOf26 rfl (by rfl)) hss rfl ?_
  refine d_s (i := 5) (k' := 63) rfl (by kernel_rfl) (by kernel_rfl) (y_lookT h rfl rfl) hss rfl ?_
  refine d_y (i := 6) (k' := 127) rfl (by kernel_rfl) (y_move rfl) rfl ?_
  refine d_y (i := 7) (k' := 255) rfl (by kernel_rfl) (y_extract rfl rfl) rfl ?_
  refine d_y (i := 8) (k' := 511) rfl (by kernel_rfl) (y_extract rfl rfl) rfl ?_
  refine d_y (i := 9) (k' := 1023) rfl (by kernel_rfl) (y_assign rfl) rfl ?_
  refine d_y (i := 10) (k' := 2047) rfl (by kernel_rfl) (y_assign rfl) rfl ?_
  refine d_end (by kernel_rfl) ?_
  refine c_seq ?_
  refine c_seq ?_
  refine c_region ?_
  refine seqq (o_y (y_move rfl) rfl ?_)
  refine seqq (o_y (y_not rfl) rfl ?_)
  refine c_nil ?_
  refine c_cond rfl (fun h20 => ?_) (fun h20 => ?_)
  ·
    have hs : findT τ.L h = none := by simpa using h20
    refine c_seq ?_
    refine c_region ?_
    refine seqq (o_y (y_buildA (zs := wideN 0) Tryz.runUnderlying51 Tryz.sizeOf49 Tryz.zeroValue51 (by kernel_rfl) .nil (by rfl)) rfl ?_)
    refine seqq (stN Tryz.sizeOf51 rfl rfl (by rfl) rfl (by rfl) ?_)
    refine c_nil ?_
    refine c_ret ?_
    refine c_done1 Tryz.results13 (rN Tryz.isAgg51 Tryz.sizeOf51 rfl (by rfl)) (fun w hS => ?_)
    exact ⟨by simp only [workT', hs] <;> rfl, hS.none⟩
  ·
    have hs : (findT τ.L h).isSome = true := by simpa using h20
    obtain ⟨i, hi⟩ := Option.isSome_iff_exists.1 hs
    have I1 := ins_nd τ i (findT_spec hi).1
    refine j_re 5 rfl (show _ = ptrI τ.bs (some i) from by rw [hi]) ?_
    refine c_skip ?_
    refine c_seq ?_
    refine c_region ?_
    refine seqq (o_y (y_move rfl) rfl ?_)
    refine seqq (o_y (y_nilCheck rfl) rfl ?_)
    refine seqq (o_y (y_fieldAddr Tryz.runUnderlying86 rfl Tryz.sizeOf51 rfl rfl) rfl ?_)
    refine seqq (o_y (lN Tryz.isAgg51 Tryz.sizeOf51 rfl (by rfl)) rfl ?_)
    refine seqq (stN Tryz.sizeOf51 rfl rfl (by rfl) rfl (by rfl) ?_)
    refine c_nil ?_
    refine c_ret ?_
    refine c_done1 Tryz.results13 (rN Tryz.isAgg51 Tryz.sizeOf51 rfl (by rfl)) (fun w hS => ?_)
    exact ⟨by simp only [workT', hi] <;> rfl, hS.none⟩

theorem tree_Bits (τ : Tr) (ok : τ.ok) (h : H32) :
    PureS Tryz.prog (Pts (treeM τ)) 38 [.pointer (some ⟨τ.bt, 0, none⟩), vH h] (.tuple #[bv .u32 (bitsH τ.r τ.L h).1, vI (bitsH τ.r τ.L h).2]) := by
  intro w hw
  refine beginR Tryz.func38 rfl Tryz.ntmps38 rfl hw ?_
  refine c_seq ?_
  refine c_region ?_
  refine seqq (o_box (T := 26) rfl (IsP.agg).cells rfl (fun b3 => ?_))
  refine seqq (o_y (y_assign (v := bv .u32 0#32) rfl) rfl ?_)
  refine seqq (o_y (y_assign rfl) rfl ?_)
  refine c_nil ?_
  refine c_seq ?_
  refine c_seq ?_
  refine c_region ?_
  refine seqq (o_y (y_move rfl) rfl ?_)
  refine seqq (o_y (y_eqlNilPk (v := false) Tryz.runUnderlying32 rfl rfl rfl) rfl ?_)
  refine c_nil ?_
  refine c_condF rfl ?_
  refine c_skip ?_
  refine c_seq ?_
  refine d_reg 9 mixed rfl ?_
  refine d_y (i := 0) (k' := 1) rfl (by kernel_rfl) (y_move rfl) rfl ?_
  refine d_y (i := 1) (k' := 3) rfl (by kernel_rfl) (y_nilCheck rfl) rfl ?_
  refine d_y (i := 2) (k' := 7) rfl (by kernel_rfl) (y_fieldAddr Tryz.runUnderlying91 rfl Tryz.sizeOf88 rfl rfl) rfl ?_
  refine d_s (i := 3) (k' := 15) rfl (by kernel_rfl) (by kernel_rfl) (l1 Tryz.isAgg88 rfl (by rfl)) hss rfl ?_
  refine d_s (i := 4) (k' := 31) rfl (by kernel_rfl) (by kernel_rfl) (lN Tryz.isAgg26 Tryz.sizeOf26 rfl (by rfl)) hss rfl ?_
  refine d_s (i := 5) (k' := 63) rfl (by kernel_rfl) (by kernel_rfl) (y_lookT h rfl rfl) hss rfl ?_
  refine d_y (i := 6) (k' := 127) rfl (by kernel_rfl) (y_move rfl) rfl ?_
  refine d_y (i := 7) (k' := 255) rfl (by kernel_rfl) (y_extract rfl rfl) rfl ?_
  refine d_y (i := 8) (k' := 511) rfl (by kernel_rfl) (y_extract rfl rfl) rfl ?_
  refine d_y (i := 9) (k' := 1023) rfl (by kernel_rfl) (y_assign rfl) rfl ?_
  refine d_y (i := 10) (k' := 2047) rfl (by kernel_rfl) (y_assign rfl) rfl ?_
  refine d_end (by kernel_rfl) ?_
  refine c_seq ?_
  refine c_seq ?_
  refine c_region ?_
  refine seqq (o_y (y_move rfl) rfl ?_)
  refine seqq (o_y (y_not rfl) rfl ?_)
  refine c_nil ?_
  refine c_cond rfl (fun h20 => ?_) (fun h20 => ?_)
  ·
    have hs : findT τ.L h = none := by simpa using h20
    refine c_seq ?_
    refine c_region ?_
    refine seqq (o_y (y_assign (v := bv .u32 0#32) rfl) rfl ?_)
    refine seqq (o_y (y_assign rfl) rfl ?_)
    refine c_nil ?_
    refine c_ret ?_
    refine c_done2 Tryz.results38 (.tmp rfl) (.tmp rfl) (fun w hS => ?_)
    exact ⟨by simp only [bitsH, hs] <;> rfl, hS.none⟩
  ·
    have hs : (findT τ.L h).isSome = true := by simpa using h20
    obtain ⟨i, hi⟩ := Option.isSome_iff_exists.1 hs
    have I1 := ins_nd τ i (findT_spec hi).1
    refine j_re 6 rfl (show _ = ptrI τ.bs (some i) from by rw [hi]) ?_
    refine c_skip ?_
    refine c_seq ?_
    refine c_region ?_
    refine seqq (o_y (y_move rfl) rfl ?_)
    refine seqq (o_y (y_move rfl) rfl ?_)
    refine seqq (o_pureS Tryz.call71 rfl (PureS.sub (tree_bits0 τ ok i (findT_spec hi).1)) rfl ?_)
    refine seqq (o_y (y_extract rfl rfl) rfl ?_)
    refine seqq (o_y (y_extract rfl rfl) rfl ?_)
    refine seqq (o_y (y_assign rfl) rfl ?_)
    refine seqq (o_y (y_assign rfl) rfl ?_)
    refine c_nil ?_
    refine c_ret ?_
    refine c_done2 Tryz.results38 (.tmp rfl) (.tmp rfl) (fun w hS => ?_)
    exact ⟨by simp only [bitsH, hi] <;> rfl, hS.none⟩

theorem tree_Tips (τ : Tr) : PureS Tryz.prog (Pts (treeM τ)) 56 [.pointer (some ⟨τ.bt, 0, none⟩)] (vI (τ.tips : Int)) := by
  intro w hw
  refine beginR Tryz.func56 rfl Tryz.ntmps56 rfl hw ?_
  refine c_seq ?_
  refine c_region ?_
  refine seqq (o_y (y_assign rfl) rfl ?_)
  refine c_nil ?_
  refine c_seq ?_
  refine c_seq ?_
  refine c_region ?_
  refine seqq (o_y (y_move rfl) rfl ?_)
  refine seqq (o_y (y_eqlNilPk (v := false) Tryz.runUnderlying32 rfl rfl rfl) rfl ?_)
  refine c_nil ?_
  refine c_condF rfl ?_
  refine c_skip ?_
  refine c_seq ?_
  refine c_region ?_
  refine seqq (o_y (y_move rfl) rfl ?_)
  refine seqq (o_y (y_nilCheck rfl) rfl ?_)
  refine seqq (o_y (y_fieldAddr Tryz.runUnderlying91 rfl Tryz.sizeOf3 rfl rfl) rfl ?_)
  refine seqq (o_y (l1 Tryz.isAgg3 rfl (by rfl)) rfl ?_)
  refine seqq (o_y (y_assign rfl) rfl ?_)
  refine c_nil ?_
  refine c_ret ?_
  refine c_done1 Tryz.results56 (.tmp rfl) (fun w hS => ?_)
  exact ⟨rfl, hS.none⟩

theorem tree_Len (τ : Tr) : PureS Tryz.prog (Pts (treeM τ)) 33 [.pointer (some ⟨τ.bt, 0, none⟩)] (vI (τ.L.length : Int)) := by
  intro w hw
  refine beginR Tryz.func33 rfl Tryz.ntmps33 rfl hw ?_
  refine c_seq ?_
  refine c_region ?_
  refine seqq (o_y (y_assign rfl) rfl ?_)
  refine c_nil ?_
  refine c_seq ?_
  refine c_seq ?_
  refine c_region ?_
  refine seqq (o_y (y_move rfl) rfl ?_)
  refine seqq (o_y (y_eqlNilPk (v := false) Tryz.runUnderlying32 rfl rfl rfl) rfl ?_)
  refine c_nil ?_
  refine c_condF rfl ?_
  refine c_skip ?_
  refine c_seq ?_
  refine c_region ?_
  refine seqq (o_y (y_move rfl) rfl ?_)
  refine seqq (o_y (y_nilCheck rfl) rfl ?_)
  refine seqq (o_y (y_fieldAddr Tryz.runUnderlying91 rfl Tryz.sizeOf88 rfl rfl) rfl ?_)
  refine seqq (o_y (l1 Tryz.isAgg88 rfl (by rfl)) rfl ?_)
  refine seqq (o_y (y_lenT (tys := #[]) rfl) rfl ?_)
  refine seqq (o_y (y_assign rfl) rfl ?_)
  refine c_nil ?_
  refine c_ret ?_
  refine c_done1 Tryz.results33 (.tmp rfl) (fun w hS => ?_)
  exact ⟨rfl, hS.none⟩
