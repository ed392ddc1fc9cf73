/- Walks and laws of this claim, part Sum. -/
import Derived.Test.YtjoniieoaokimaaGreatVSha
set_option linter.unusedVariables false
set_option linter.unusedSimpArgs false
set_option linter.unusedSectionVars false
set_option autoImplicit true
set_option relaxedAutoImplicit true
set_option maxRecDepth 100000
set_option maxHeartbeats 4000000
namespace Go.Proofs
open V
def shaH0 : S8 := ⟨1779033703#32, 3144134277#32, 1013904242#32, 2773480762#32, 1359893119#32, 2600822924#32, 528734635#32, 1541459225#32⟩
def padN (n : Nat) : Nat := (119 - n % 64) % 64
def lst (bs : List (BitVec 8)) (k : Nat) : List (BitVec 8) := bs ++ [128#8] ++ List.replicate k 0#8
def lenb (n i : Nat) : BitVec 8 := ((BitVec.ofInt 64 (n : Int) <<< 3) >>> i).setWidth 8
def padded (bs : List (BitVec 8)) : List (BitVec 8) := lst bs (padN bs.length) ++ [lenb bs.length 56, lenb bs.length 48, lenb bs.length 40, lenb bs.length 32, lenb bs.length 24, lenb bs.length 16, lenb bs.length 8, lenb bs.length 0]
def chunk (L : List (BitVec 8)) (k : Nat) : List (BitVec 8) := (L.drop (64 * k)).take 64
def blks (L : List (BitVec 8)) : Nat → S8
  | 0 => shaH0
  | k + 1 => blk8 (blks L k) (chunk L k)
def qOf (n : Nat) : Nat := (n + 1 + padN n + 8) / 64
def outS (s : S8) : List (BitVec 8) := [(s.a >>> 24).setWidth 8, (s.a >>> 16).setWidth 8, (s.a >>> 8).setWidth 8, (s.a >>> 0).setWidth 8, (s.b >>> 24).setWidth 8, (s.b >>> 16).setWidth 8, (s.b >>> 8).setWidth 8, (s.b >>> 0).setWidth 8, (s.c >>> 24).setWidth 8, (s.c >>> 16).setWidth 8, (s.c >>> 8).setWidth 8, (s.c >>> 0).setWidth 8, (s.d >>> 24).setWidth 8, (s.d >>> 16).setWidth 8, (s.d >>> 8).setWidth 8, (s.d >>> 0).setWidth 8, (s.e >>> 24).setWidth 8, (s.e >>> 16).setWidth 8, (s.e >>> 8).setWidth 8, (s.e >>> 0).setWidth 8, (s.f >>> 24).setWidth 8, (s.f >>> 16).setWidth 8, (s.f >>> 8).setWidth 8, (s.f >>> 0).setWidth 8, (s.g >>> 24).setWidth 8, (s.g >>> 16).setWidth 8, (s.g >>> 8).setWidth 8, (s.g >>> 0).setWidth 8, (s.h >>> 24).setWidth 8, (s.h >>> 16).setWidth 8, (s.h >>> 8).setWidth 8, (s.h >>> 0).setWidth 8]
def sha (bs : List (BitVec 8)) : List (BitVec 8) := outS (blks (padded bs) (qOf bs.length))
theorem sha_len (bs : List (BitVec 8)) : (sha bs).length = 32 := rfl
theorem outs_sets (s : S8) : (((((((((((((((((((((((((((((((((List.replicate 32 0#8).set 0 ((s.a >>> 24).setWidth 8)).set 1 ((s.a >>> 16).setWidth 8)).set 2 ((s.a >>> 8).setWidth 8)).set 3 ((s.a >>> 0).setWidth 8)).set 4 ((s.b >>> 24).setWidth 8)).set 5 ((s.b >>> 16).setWidth 8)).set 6 ((s.b >>> 8).setWidth 8)).set 7 ((s.b >>> 0).setWidth 8)).set 8 ((s.c >>> 24).setWidth 8)).set 9 ((s.c >>> 16).setWidth 8)).set 10 ((s.c >>> 8).setWidth 8)).set 11 ((s.c >>> 0).setWidth 8)).set 12 ((s.d >>> 24).setWidth 8)).set 13 ((s.d >>> 16).setWidth 8)).set 14 ((s.d >>> 8).setWidth 8)).set 15 ((s.d >>> 0).setWidth 8)).set 16 ((s.e >>> 24).setWidth 8)).set 17 ((s.e >>> 16).setWidth 8)).set 18 ((s.e >>> 8).setWidth 8)).set 19 ((s.e >>> 0).setWidth 8)).set 20 ((s.f >>> 24).setWidth 8)).set 21 ((s.f >>> 16).setWidth 8)).set 22 ((s.f >>> 8).setWidth 8)).set 23 ((s.f >>> 0).setWidth 8)).set 24 ((s.g >>> 24).setWidth 8)).set 25 ((s.g >>> 16).setWidth 8)).set 26 ((s.g >>> 8).setWidth 8)).set 27 ((s.g >>> 0).setWidth 8)).set 28 ((s.h >>> 24).setWidth 8)).set 29 ((s.h >>> 16).setWidth 8)).set 30 ((s.h >>> 8).setWidth 8)).set 31 ((s.h >>> 0).setWidth 8)) = outS s := by kernel_rfl
theorem outs_sha (bs : List (BitVec 8)) : (((((((((((((((((((((((((((((((((List.replicate 32 0#8).set 0 (((blks (padded bs) (qOf bs.length)).a >>> 24).setWidth 8)).set 1 (((blks (padded bs) (qOf bs.length)).a >>> 16).setWidth 8)).set 2 (((blks (padded bs) (qOf bs.length)).a >>> 8).setWidth 8)).set 3 (((blks (padded bs) (qOf bs.length)).a >>> 0).setWidth 8)).set 4 (((blks (padded bs) (qOf bs.length)).b >>> 24).setWidth 8)).set 5 (((blks (padded bs) (qOf bs.length)).b >>> 16).setWidth 8)).set 6 (((blks (padded bs) (qOf bs.length)).b >>> 8).setWidth 8)).set 7 (((blks (padded bs) (qOf bs.length)).b >>> 0).setWidth 8)).set 8 (((blks (padded bs) (qOf bs.length)).c >>> 24).setWidth 8)).set 9 (((blks (padded bs) (qOf bs.length)).c >>> 16).setWidth 8)).set 10 (((blks (padded bs) (qOf bs.length)).c >>> 8).setWidth 8)).set 11 (((blks (padded bs) (qOf bs.length)).c >>> 0).setWidth 8)).set 12 (((blks (padded bs) (qOf bs.length)).d >>> 24).setWidth 8)).set 13 (((blks (padded bs) (qOf bs.length)).d >>> 16).setWidth 8)).set 14 (((blks (padded bs) (qOf bs.length)).d >>> 8).setWidth 8)).set 15 (((blks (padded bs) (qOf bs.length)).d >>> 0).setWidth 8)).set 16 (((blks (padded bs) (qOf bs.length)).e >>> 24).setWidth 8)).set 17 (((blks (padded bs) (qOf bs.length)).e >>> 16).setWidth 8)).set 18 (((blks (padded bs) (qOf bs.length)).e >>> 8).setWidth 8)).set 19 (((blks (padded bs) (qOf bs.length)).e >>> 0).setWidth 8)).set 20 (((blks (padded bs) (qOf bs.length)).f >>> 24).setWidth 8)).set 21 (((blks (padded bs) (qOf bs.length)).f >>> 16).setWidth 8)).set 22 (((blks (padded bs) (qOf bs.length)).f >>> 8).setWidth 8)).set 23 (((blks (padded bs) (qOf bs.length)).f >>> 0).setWidth 8)).set 24 (((blks (padded bs) (qOf bs.length)).g >>> 24).setWidth 8)).set 25 (((blks (padded bs) (qOf bs.length)).g >>> 16).setWidth 8)).set 26 (((blks (padded bs) (qOf bs.length)).g >>> 8).setWidth 8)).set 27 (((blks (padded bs) (qOf bs.length)).g >>> 0).setWidth 8)).set 28 (((blks (padded bs) (qOf bs.length)).h >>> 24).setWidth 8)).set 29 (((blks (padded bs) (qOf bs.length)).h >>> 16).setWidth 8)).set 30 (((blks (padded bs) (qOf bs.length)).h >>> 8).setWidth 8)).set 31 (((blks (padded bs) (qOf bs.length)).h >>> 0).setWidth 8)) = sha bs := outs_sets _
theorem lst_len (bs : List (BitVec 8)) (k : Nat) : (lst bs k).length = bs.length + 1 + k := by simp [lst]; omega
theorem lst_succ (bs : List (BitVec 8)) (k : Nat) : lst bs k ++ [0#8] = lst bs (k + 1) := by simp [lst, List.replicate_succ']
theorem padded_len (bs : List (BitVec 8)) : (padded bs).length = 64 * qOf bs.length := by
  simp only [padded, List.length_append, lst_len, List.length_cons, List.length_nil, qOf, padN]; omega
theorem qOf_pos (n : Nat) : 1 ≤ qOf n := by unfold qOf padN; omega
theorem padded_is (bs : List (BitVec 8)) (n : Nat) (h : n = bs.length) : lst bs (padN bs.length) ++ [lenb n 56] ++ [lenb n 48] ++ [lenb n 40] ++ [lenb n 32] ++ [lenb n 24] ++ [lenb n 16] ++ [lenb n 8] ++ [lenb n 0] = padded bs := by
  subst h; simp [padded]
theorem chunk_get {sp : List Value} (L : List (BitVec 8)) (k j : Nat) (hj : j < 64) (hk : 64 * k + j < L.length) : (By L ++ sp)[64 * k + j]? = some (bv .u8 ((chunk L k).getD j 0#8)) := by
  rw [List.getElem?_append_left (by simpa using hk), by_get hk]
  congr 2
  simp [chunk, List.getD, List.getElem?_take, hj]
theorem ne_blk {w : World} {b c : Nat} {x y : Array Value} {T T' : TypeId} {f f' : Nat × Nat} (h1 : w.heap[b]? = some (.cells x T f)) (h2 : w.heap[c]? = some (.cells y T' f')) (hT : T ≠ T') : b ≠ c := by
  rintro rfl; rw [h1] at h2; cases h2; exact hT rfl

theorem dig_Sum0 (bs : List (BitVec 8)) (hbs : bs.length ≤ 1073741824) (a : Option Addr) (c : Nat) (Rd : List Seg) (hv : ∀ w, Pts Rd w → SlIn w (.slice a bs.length c) (By bs)) (w : World) (hw : Pts Rd w) :
    Calls Tryz.prog 96 [.slice a bs.length c].toArray w (Ret fun u w' => u = vagg [leaf .u8 32 (sha bs) (sha_len bs)] ∧ Ext w w') := by
  have hpn : padN bs.length < 64 := Nat.mod_lt _ (by decide)
  have hq := padded_len bs
  refine beginMR Tryz.func96 rfl Tryz.ntmps96 rfl hw ?_
  refine c_seq ?_
  refine c_region ?_
  refine seqq (o_alloc (ps := [zleaf .u8 8 32]) Tryz.zeroValue26 (by kernel_rfl) rfl (fun b2 => ?_))
  refine c_nil ?_
  refine c_seq ?_
  refine c_region ?_
  refine seqq (o_y (y_buildA (zs := [P1 (bv .u32 0#32), P1 (bv .u32 0#32), P1 (bv .u32 0#32), P1 (bv .u32 0#32), P1 (bv .u32 0#32), P1 (bv .u32 0#32), P1 (bv .u32 0#32), P1 (bv .u32 0#32)]) Tryz.runUnderlying185 Tryz.sizeOf22 Tryz.zeroValue185 (by kernel_rfl) (.one (v := bv .u32 1779033703#32) rfl rfl (.one (v := bv .u32 3144134277#32) rfl rfl (.one (v := bv .u32 1013904242#32) rfl rfl (.one (v := bv .u32 2773480762#32) rfl rfl (.one (v := bv .u32 1359893119#32) rfl rfl (.one (v := bv .u32 2600822924#32) rfl rfl (.one (v := bv .u32 528734635#32) rfl rfl (.one (v := bv .u32 1541459225#32) rfl rfl .nil)))))))) (by rfl)) rfl ?_)
  refine seqq (o_alloc (ps := [P1 (bv .u32 0#32), P1 (bv .u32 0#32), P1 (bv .u32 0#32), P1 (bv .u32 0#32), P1 (bv .u32 0#32), P1 (bv .u32 0#32), P1 (bv .u32 0#32), P1 (bv .u32 0#32)]) Tryz.zeroValue185 (by kernel_rfl) rfl (fun b3 => ?_))
  refine seqq (stN Tryz.sizeOf185 rfl rfl (by rfl) rfl (by rfl) ?_)
  refine c_nil ?_
  refine c_seq ?_
  refine c_region ?_
  refine seqq (o_y (y_move rfl) rfl ?_)
  refine seqq (o_newsl (T := 5) (cs := By bs) Tryz.call95 rfl rfl (fun w hw => slices_Clone (hv w (fun p hp => hw p (by rw [List.flatten_append]; exact List.mem_append.2 (.inl hp)))) (by_one bs) (by rw [by_len]; omega)) (fun g0 hg0 => ?_))
  refine seqq (o_buildSlice (zs := [P1 (bv .u8 0#8)]) Tryz.runUnderlying36 Tryz.sizeOf5 Tryz.zeroValue5 (by kernel_rfl) rfl rfl (.one (v := bv .u8 128#8) rfl rfl .nil) (by rfl) rfl (fun b12 => ?_))
  refine seqq (o_app1 (bs := bs) (l := (By bs).length) (x8 := 128#8) g0 Tryz.runUnderlying36 Tryz.sizeOf5 Tryz.zeroValue5 (by kernel_rfl) Tryz.typeInfo5 rfl Tryz.runUnderlying36 rfl (by_len bs).symm rfl rfl (by rw [← by_len bs]; exact hg0) (by rfl) (by omega) rfl (fun g1 hg1 => ?_))
  refine seqq (o_y (y_assign rfl) rfl ?_)
  have hg1 : g1.ok 1 (lst bs 0).length (By (lst bs 0)) := by simpa [lst] using hg1
  refine j_vgL (T := 5) (L' := lst bs 0) 4 g1 rfl (by simp [lst]) ?_
  refine c_nil ?_
  refine c_seq ?_
  refine c_block ?_
  refine c_while (X := Nat × VG) [0, 2, 3] [b2, b3] rfl (fun Ek x => (4, x.2.val (lst bs x.1).length) :: Ek) (fun Mk x => x.2.seg 5 (By (lst bs x.1)) :: Mk) (fun x => x.1 ≤ padN bs.length ∧ x.2.ok 1 (lst bs x.1).length (By (lst bs x.1))) (fun x => padN bs.length - x.1) (0, g1) ⟨by omega, by simpa [lst] using hg1⟩ ⟨rfl, rfl, rfl, rfl, trivial⟩ ?_
  intro x hp
  obtain ⟨hk, hg⟩ := hp
  refine c_seq ?_
  refine c_seq ?_
  refine c_region ?_
  refine seqq (o_y (y_move rfl) rfl ?_)
  refine seqq (o_y (y_lenG Tryz.runUnderlying36 rfl hg) rfl ?_)
  refine seqq (o_y (y_remI rfl rfl (by omega)) rfl ?_)
  refine seqq (o_y (y_neqZ rfl rfl) rfl ?_)
  refine c_nil ?_
  refine c_ifn rfl (fun h17 => ?_) (fun h17 => ?_)
  ·
    refine c_skip ?_
    refine c_block ?_
    refine c_region ?_
    refine seqq (o_y (y_move rfl) rfl ?_)
    refine seqq (o_buildSlice (zs := [P1 (bv .u8 0#8)]) Tryz.runUnderlying36 Tryz.sizeOf5 Tryz.zeroValue5 (by kernel_rfl) rfl rfl (.one (v := bv .u8 0#8) rfl rfl .nil) (by rfl) rfl (fun b19 => ?_))
    refine seqq (o_app1 (bs := lst bs x.1) (x8 := 0#8) x.2 Tryz.runUnderlying36 Tryz.sizeOf5 Tryz.zeroValue5 (by kernel_rfl) Tryz.typeInfo5 rfl Tryz.runUnderlying36 rfl rfl rfl rfl hg (by rfl) (by rw [lst_len]; omega) rfl (fun g2 hg2 => ?_))
    refine seqq (o_y (y_assign rfl) rfl ?_)
    refine c_nil ?_
    rw [lst_succ] at hg2
    rw [lst_succ]
    exact c_next (x.1 + 1, g2) ⟨by rw [lst_len] at h17; dsimp only; unfold padN at *; omega, hg2⟩ (by dsimp only; rw [lst_len] at h17; unfold padN at *; omega) ⟨rfl, rfl, rfl, rfl, trivial⟩
  ·
    obtain ⟨k, g⟩ := x
    dsimp only at hk hg h17 ⊢
    obtain rfl : k = padN bs.length := by rw [lst_len] at h17; unfold padN at *; omega
    refine c_exit ?_
    refine c_seq ?_
    refine c_seq ?_
    refine c_region ?_
    refine seqq (o_y (y_assign rfl) rfl ?_)
    refine c_nil ?_
    refine c_block ?_
    refine c_loop 9 ?_
    refine c_round ?_
    refine c_seq ?_
    refine c_seq ?_
    refine c_region ?_
    refine seqq (o_y (y_move rfl) rfl ?_)
    refine seqq (o_y (y_binZ (v := .bool true) rfl rfl (fun _ => by rfl)) rfl ?_)
    refine c_nil ?_
    refine c_condT rfl ?_
    refine c_skip ?_
    refine c_seq ?_
    refine c_block ?_
    refine c_region ?_
    refine seqq (o_y (y_move rfl) rfl ?_)
    refine seqq (o_y (y_move rfl) rfl ?_)
    refine seqq (o_y (y_len (tys := #[]) Tryz.runUnderlying36 rfl) rfl ?_)
    refine seqq (o_y (y_convZB UK.u64 Tryz.runUnderlying3 Tryz.runUnderlying49 rfl) rfl ?_)
    refine seqq (o_y (y_shlB (s := 3) UK.u64 rfl rfl) rfl ?_)
    refine seqq (o_y (y_move rfl) rfl ?_)
    refine seqq (o_y (y_shrB (s := 56) UK.u64 rfl rfl) rfl ?_)
    refine seqq (o_y (y_convB UK.u8 Tryz.runUnderlying49 Tryz.runUnderlying5 rfl) rfl ?_)
    refine seqq (o_buildSlice (zs := [P1 (bv .u8 0#8)]) Tryz.runUnderlying36 Tryz.sizeOf5 Tryz.zeroValue5 (by kernel_rfl) rfl rfl (.one rfl rfl .nil) (by rfl) rfl (fun b33 => ?_))
    refine seqq (o_app1 (bs := lst bs (padN bs.length)) (x8 := lenb bs.length 56) g Tryz.runUnderlying36 Tryz.sizeOf5 Tryz.zeroValue5 (by kernel_rfl) Tryz.typeInfo5 rfl Tryz.runUnderlying36 rfl rfl rfl rfl hg (by rfl) (by simp [lst_len]; unfold padN; omega) rfl (fun q0 hq0 => ?_))
    refine seqq (o_y (y_assign rfl) rfl ?_)
    refine c_nil ?_
    refine c_region ?_
    refine seqq (o_y (y_move rfl) rfl ?_)
    refine seqq (o_y (y_binZ (v := .int .i64 48) rfl rfl (fun _ => by rfl)) rfl ?_)
    refine seqq (o_y (y_assign rfl) rfl ?_)
    refine c_nil ?_
    refine c_round ?_
    refine c_seq ?_
    refine c_seq ?_
    refine c_region ?_
    refine seqq (o_y (y_move rfl) rfl ?_)
    refine seqq (o_y (y_binZ (v := .bool true) rfl rfl (fun _ => by rfl)) rfl ?_)
    refine c_nil ?_
    refine c_condT rfl ?_
    refine c_skip ?_
    refine c_seq ?_
    refine c_block ?_
    refine c_region ?_
    refine seqq (o_y (y_move rfl) rfl ?_)
    refine seqq (o_y (y_move rfl) rfl ?_)
    refine seqq (o_y (y_len (tys := #[]) Tryz.runUnderlying36 rfl) rfl ?_)
    refine seqq (o_y (y_convZB UK.u64 Tryz.runUnderlying3 Tryz.runUnderlying49 rfl) rfl ?_)
    refine seqq (o_y (y_shlB (s := 3) UK.u64 rfl rfl) rfl ?_)
    refine seqq (o_y (y_move rfl) rfl ?_)
    refine seqq (o_y (y_shrB (s := 48) UK.u64 rfl rfl) rfl ?_)
    refine seqq (o_y (y_convB UK.u8 Tryz.runUnderlying49 Tryz.runUnderlying5 rfl) rfl ?_)
    refine seqq (o_buildSlice (zs := [P1 (bv .u8 0#8)]) Tryz.runUnderlying36 Tryz.sizeOf5 Tryz.zeroValue5 (by kernel_rfl) rfl rfl (.one rfl rfl .nil) (by rfl) rfl (fun b33 => ?_))
    refine seqq (o_app1 (bs := (lst bs (padN bs.length) ++ [lenb bs.length 56])) (x8 := lenb bs.length 48) q0 Tryz.runUnderlying36 Tryz.sizeOf5 Tryz.zeroValue5 (by kernel_rfl) Tryz.typeInfo5 rfl Tryz.runUnderlying36 rfl rfl rfl rfl hq0 (by rfl) (by simp [lst_len]; unfold padN; omega) rfl (fun q1 hq1 => ?_))
    refine seqq (o_y (y_assign rfl) rfl ?_)
    refine c_nil ?_
    refine c_region ?_
    refine seqq (o_y (y_move rfl) rfl ?_)
    refine seqq (o_y (y_binZ (v := .int .i64 40) rfl rfl (fun _ => by rfl)) rfl ?_)
    refine seqq (o_y (y_assign rfl) rfl ?_)
    refine c_nil ?_
    refine c_round ?_
    refine c_seq ?_
    refine c_seq ?_
    refine c_region ?_
    refine seqq (o_y (y_move rfl) rfl ?_)
    refine seqq (o_y (y_binZ (v := .bool true) rfl rfl (fun _ => by rfl)) rfl ?_)
    refine c_nil ?_
    refine c_condT rfl ?_
    refine c_skip ?_
    refine c_seq ?_
    refine c_block ?_
    refine c_region ?_
    refine seqq (o_y (y_move rfl) rfl ?_)
    refine seqq (o_y (y_move rfl) rfl ?_)
    refine seqq (o_y (y_len (tys := #[]) Tryz.runUnderlying36 rfl) rfl ?_)
    refine seqq (o_y (y_convZB UK.u64 Tryz.runUnderlying3 Tryz.runUnderlying49 rfl) rfl ?_)
    refine seqq (o_y (y_shlB (s := 3) UK.u64 rfl rfl) rfl ?_)
    refine seqq (o_y (y_move rfl) rfl ?_)
    refine seqq (o_y (y_shrB (s := 40) UK.u64 rfl rfl) rfl ?_)
    refine seqq (o_y (y_convB UK.u8 Tryz.runUnderlying49 Tryz.runUnderlying5 rfl) rfl ?_)
    refine seqq (o_buildSlice (zs := [P1 (bv .u8 0#8)]) Tryz.runUnderlying36 Tryz.sizeOf5 Tryz.zeroValue5 (by kernel_rfl) rfl rfl (.one rfl rfl .nil) (by rfl) rfl (fun b33 => ?_))
    refine seqq (o_app1 (bs := ((lst bs (padN bs.length) ++ [lenb bs.length 56]) ++ [lenb bs.length 48])) (x8 := lenb bs.length 40) q1 Tryz.runUnderlying36 Tryz.sizeOf5 Tryz.zeroValue5 (by kernel_rfl) Tryz.typeInfo5 rfl Tryz.runUnderlying36 rfl rfl rfl rfl hq1 (by rfl) (by simp [lst_len]; unfold padN; omega) rfl (fun q2 hq2 => ?_))
    refine seqq (o_y (y_assign rfl) rfl ?_)
    refine c_nil ?_
    refine c_region ?_
    refine seqq (o_y (y_move rfl) rfl ?_)
    refine seqq (o_y (y_binZ (v := .int .i64 32) rfl rfl (fun _ => by rfl)) rfl ?_)
    refine seqq (o_y (y_assign rfl) rfl ?_)
    refine c_nil ?_
    refine c_round ?_
    refine c_seq ?_
    refine c_seq ?_
    refine c_region ?_
    refine seqq (o_y (y_move rfl) rfl ?_)
    refine seqq (o_y (y_binZ (v := .bool true) rfl rfl (fun _ => by rfl)) rfl ?_)
    refine c_nil ?_
    refine c_condT rfl ?_
    refine c_skip ?_
    refine c_seq ?_
    refine c_block ?_
    refine c_region ?_
    refine seqq (o_y (y_move rfl) rfl ?_)
    refine seqq (o_y (y_move rfl) rfl ?_)
    refine seqq (o_y (y_len (tys := #[]) Tryz.runUnderlying36 rfl) rfl ?_)
    refine seqq (o_y (y_convZB UK.u64 Tryz.runUnderlying3 Tryz.runUnderlying49 rfl) rfl ?_)
    refine seqq (o_y (y_shlB (s := 3) UK.u64 rfl rfl) rfl ?_)
    refine seqq (o_y (y_move rfl) rfl ?_)
    refine seqq (o_y (y_shrB (s := 32) UK.u64 rfl rfl) rfl ?_)
    refine seqq (o_y (y_convB UK.u8 Tryz.runUnderlying49 Tryz.runUnderlying5 rfl) rfl ?_)
    refine seqq (o_buildSlice (zs := [P1 (bv .u8 0#8)]) Tryz.runUnderlying36 Tryz.sizeOf5 Tryz.zeroValue5 (by kernel_rfl) rfl rfl (.one rfl rfl .nil) (by rfl) rfl (fun b33 => ?_))
    refine seqq (o_app1 (bs := (((lst bs (padN bs.length) ++ [lenb bs.length 56]) ++ [lenb bs.length 48]) ++ [lenb bs.length 40])) (x8 := lenb bs.length 32) q2 Tryz.runUnderlying36 Tryz.sizeOf5 Tryz.zeroValue5 (by kernel_rfl) Tryz.typeInfo5 rfl Tryz.runUnderlying36 rfl rfl rfl rfl hq2 (by rfl) (by simp [lst_len]; unfold padN; omega) rfl (fun q3 hq3 => ?_))
    refine seqq (o_y (y_assign rfl) rfl ?_)
    refine c_nil ?_
    refine c_region ?_
    refine seqq (o_y (y_move rfl) rfl ?_)
    refine seqq (o_y (y_binZ (v := .int .i64 24) rfl rfl (fun _ => by rfl)) rfl ?_)
    refine seqq (o_y (y_assign rfl) rfl ?_)
    refine c_nil ?_
    refine c_round ?_
    refine c_seq ?_
    refine c_seq ?_
    refine c_region ?_
    refine seqq (o_y (y_move rfl) rfl ?_)
    refine seqq (o_y (y_binZ (v := .bool true) rfl rfl (fun _ => by rfl)) rfl ?_)
    refine c_nil ?_
    refine c_condT rfl ?_
    refine c_skip ?_
    refine c_seq ?_
    refine c_block ?_
    refine c_region ?_
    refine seqq (o_y (y_move rfl) rfl ?_)
    refine seqq (o_y (y_move rfl) rfl ?_)
    refine seqq (o_y (y_len (tys := #[]) Tryz.runUnderlying36 rfl) rfl ?_)
    refine seqq (o_y (y_convZB UK.u64 Tryz.runUnderlying3 Tryz.runUnderlying49 rfl) rfl ?_)
    refine seqq (o_y (y_shlB (s := 3) UK.u64 rfl rfl) rfl ?_)
    refine seqq (o_y (y_move rfl) rfl ?_)
    refine seqq (o_y (y_shrB (s := 24) UK.u64 rfl rfl) rfl ?_)
    refine seqq (o_y (y_convB UK.u8 Tryz.runUnderlying49 Tryz.runUnderlying5 rfl) rfl ?_)
    refine seqq (o_buildSlice (zs := [P1 (bv .u8 0#8)]) Tryz.runUnderlying36 Tryz.sizeOf5 Tryz.zeroValue5 (by kernel_rfl) rfl rfl (.one rfl rfl .nil) (by rfl) rfl (fun b33 => ?_))
    refine seqq (o_app1 (bs := ((((lst bs (padN bs.length) ++ [lenb bs.length 56]) ++ [lenb bs.length 48]) ++ [lenb bs.length 40]) ++ [lenb bs.length 32])) (x8 := lenb bs.length 24) q3 Tryz.runUnderlying36 Tryz.sizeOf5 Tryz.zeroValue5 (by kernel_rfl) Tryz.typeInfo5 rfl Tryz.runUnderlying36 rfl rfl rfl rfl hq3 (by rfl) (by simp [lst_len]; unfold padN; omega) rfl (fun q4 hq4 => ?_))
    refine seqq (o_y (y_assign rfl) rfl ?_)
    refine c_nil ?_
    refine c_region ?_
    refine seqq (o_y (y_move rfl) rfl ?_)
    refine seqq (o_y (y_binZ (v := .int .i64 16) rfl rfl (fun _ => by rfl)) rfl ?_)
    refine seqq (o_y (y_assign rfl) rfl ?_)
    refine c_nil ?_
    refine c_round ?_
    refine c_seq ?_
    refine c_seq ?_
    refine c_region ?_
    refine seqq (o_y (y_move rfl) rfl ?_)
    refine seqq (o_y (y_binZ (v := .bool true) rfl rfl (fun _ => by rfl)) rfl ?_)
    refine c_nil ?_
    refine c_condT rfl ?_
    refine c_skip ?_
    refine c_seq ?_
    refine c_block ?_
    refine c_region ?_
    refine seqq (o_y (y_move rfl) rfl ?_)
    refine seqq (o_y (y_move rfl) rfl ?_)
    refine seqq (o_y (y_len (tys := #[]) Tryz.runUnderlying36 rfl) rfl ?_)
    refine seqq (o_y (y_convZB UK.u64 Tryz.runUnderlying3 Tryz.runUnderlying49 rfl) rfl ?_)
    refine seqq (o_y (y_shlB (s := 3) UK.u64 rfl rfl) rfl ?_)
    refine seqq (o_y (y_move rfl) rfl ?_)
    refine seqq (o_y (y_shrB (s := 16) UK.u64 rfl rfl) rfl ?_)
    refine seqq (o_y (y_convB UK.u8 Tryz.runUnderlying49 Tryz.runUnderlying5 rfl) rfl ?_)
    refine seqq (o_buildSlice (zs := [P1 (bv .u8 0#8)]) Tryz.runUnderlying36 Tryz.sizeOf5 Tryz.zeroValue5 (by kernel_rfl) rfl rfl (.one rfl rfl .nil) (by rfl) rfl (fun b33 => ?_))
    refine seqq (o_app1 (bs := (((((lst bs (padN bs.length) ++ [lenb bs.length 56]) ++ [lenb bs.length 48]) ++ [lenb bs.length 40]) ++ [lenb bs.length 32]) ++ [lenb bs.length 24])) (x8 := lenb bs.length 16) q4 Tryz.runUnderlying36 Tryz.sizeOf5 Tryz.zeroValue5 (by kernel_rfl) Tryz.typeInfo5 rfl Tryz.runUnderlying36 rfl rfl rfl rfl hq4 (by rfl) (by simp [lst_len]; unfold padN; omega) rfl (fun q5 hq5 => ?_))
    refine seqq (o_y (y_assign rfl) rfl ?_)
    refine c_nil ?_
    refine c_region ?_
    refine seqq (o_y (y_move rfl) rfl ?_)
    refine seqq (o_y (y_binZ (v := .int .i64 8) rfl rfl (fun _ => by rfl)) rfl ?_)
    refine seqq (o_y (y_assign rfl) rfl ?_)
    refine c_nil ?_
    refine c_round ?_
    refine c_seq ?_
    refine c_seq ?_
    refine c_region ?_
    refine seqq (o_y (y_move rfl) rfl ?_)
    refine seqq (o_y (y_binZ (v := .bool true) rfl rfl (fun _ => by rfl)) rfl ?_)
    refine c_nil ?_
    refine c_condT rfl ?_
    refine c_skip ?_
    refine c_seq ?_
    refine c_block ?_
    refine c_region ?_
    refine seqq (o_y (y_move rfl) rfl ?_)
    refine seqq (o_y (y_move rfl) rfl ?_)
    refine seqq (o_y (y_len (tys := #[]) Tryz.runUnderlying36 rfl) rfl ?_)
    refine seqq (o_y (y_convZB UK.u64 Tryz.runUnderlying3 Tryz.runUnderlying49 rfl) rfl ?_)
    refine seqq (o_y (y_shlB (s := 3) UK.u64 rfl rfl) rfl ?_)
    refine seqq (o_y (y_move rfl) rfl ?_)
    refine seqq (o_y (y_shrB (s := 8) UK.u64 rfl rfl) rfl ?_)
    refine seqq (o_y (y_convB UK.u8 Tryz.runUnderlying49 Tryz.runUnderlying5 rfl) rfl ?_)
    refine seqq (o_buildSlice (zs := [P1 (bv .u8 0#8)]) Tryz.runUnderlying36 Tryz.sizeOf5 Tryz.zeroValue5 (by kernel_rfl) rfl rfl (.one rfl rfl .nil) (by rfl) rfl (fun b33 => ?_))
    refine seqq (o_app1 (bs := ((((((lst bs (padN bs.length) ++ [lenb bs.length 56]) ++ [lenb bs.length 48]) ++ [lenb bs.length 40]) ++ [lenb bs.length 32]) ++ [lenb bs.length 24]) ++ [lenb bs.length 16])) (x8 := lenb bs.length 8) q5 Tryz.runUnderlying36 Tryz.sizeOf5 Tryz.zeroValue5 (by kernel_rfl) Tryz.typeInfo5 rfl Tryz.runUnderlying36 rfl rfl rfl rfl hq5 (by rfl) (by simp [lst_len]; unfold padN; omega) rfl (fun q6 hq6 => ?_))
    refine seqq (o_y (y_assign rfl) rfl ?_)
    refine c_nil ?_
    refine c_region ?_
    refine seqq (o_y (y_move rfl) rfl ?_)
    refine seqq (o_y (y_binZ (v := .int .i64 0) rfl rfl (fun _ => by rfl)) rfl ?_)
    refine seqq (o_y (y_assign rfl) rfl ?_)
    refine c_nil ?_
    refine c_round ?_
    refine c_seq ?_
    refine c_seq ?_
    refine c_region ?_
    refine seqq (o_y (y_move rfl) rfl ?_)
    refine seqq (o_y (y_binZ (v := .bool true) rfl rfl (fun _ => by rfl)) rfl ?_)
    refine c_nil ?_
    refine c_condT rfl ?_
    refine c_skip ?_
    refine c_seq ?_
    refine c_block ?_
    refine c_region ?_
    refine seqq (o_y (y_move rfl) rfl ?_)
    refine seqq (o_y (y_move rfl) rfl ?_)
    refine seqq (o_y (y_len (tys := #[]) Tryz.runUnderlying36 rfl) rfl ?_)
    refine seqq (o_y (y_convZB UK.u64 Tryz.runUnderlying3 Tryz.runUnderlying49 rfl) rfl ?_)
    refine seqq (o_y (y_shlB (s := 3) UK.u64 rfl rfl) rfl ?_)
    refine seqq (o_y (y_move rfl) rfl ?_)
    refine seqq (o_y (y_shrB (s := 0) UK.u64 rfl rfl) rfl ?_)
    refine seqq (o_y (y_convB UK.u8 Tryz.runUnderlying49 Tryz.runUnderlying5 rfl) rfl ?_)
    refine seqq (o_buildSlice (zs := [P1 (bv .u8 0#8)]) Tryz.runUnderlying36 Tryz.sizeOf5 Tryz.zeroValue5 (by kernel_rfl) rfl rfl (.one rfl rfl .nil) (by rfl) rfl (fun b33 => ?_))
    refine seqq (o_app1 (bs := (((((((lst bs (padN bs.length) ++ [lenb bs.length 56]) ++ [lenb bs.length 48]) ++ [lenb bs.length 40]) ++ [lenb bs.length 32]) ++ [lenb bs.length 24]) ++ [lenb bs.length 16]) ++ [lenb bs.length 8])) (x8 := lenb bs.length 0) q6 Tryz.runUnderlying36 Tryz.sizeOf5 Tryz.zeroValue5 (by kernel_rfl) Tryz.typeInfo5 rfl Tryz.runUnderlying36 rfl rfl rfl rfl hq6 (by rfl) (by simp [lst_len]; unfold padN; omega) rfl (fun q7 hq7 => ?_))
    refine seqq (o_y (y_assign rfl) rfl ?_)
    refine c_nil ?_
    refine c_region ?_
    refine seqq (o_y (y_move rfl) rfl ?_)
    refine seqq (o_y (y_binZ (v := .int .i64 (-8)) rfl rfl (fun _ => by rfl)) rfl ?_)
    refine seqq (o_y (y_assign rfl) rfl ?_)
    refine c_nil ?_
    refine c_round ?_
    refine c_seq ?_
    refine c_seq ?_
    refine c_region ?_
    refine seqq (o_y (y_move rfl) rfl ?_)
    refine seqq (o_y (y_binZ (v := .bool false) rfl rfl (fun _ => by rfl)) rfl ?_)
    refine c_nil ?_
    refine c_condF rfl ?_
    refine c_exit ?_
    refine c_seq ?_
    refine c_seq ?_
    refine c_region ?_
    refine seqq (o_y (y_move rfl) rfl ?_)
    refine j_vgB (T := 5) (L' := padded bs) (m := 64 * qOf bs.length) 35 q7 rfl (padded_is bs _ rfl) hq7 (padded_len bs) (by have := qOf_pos bs.length; omega) (fun bd cap sp hcap => ?_)
    refine seqq (o_new2 (X := Nat × Nat) (v := fun x => .func (.func 129) #[] [.pointer (some ⟨x.1, 0, none⟩), .pointer (some ⟨x.2, 0, none⟩)].toArray) (A := fun x => [(x.1, obj 36 [P1 (.slice (some ⟨bd, 0, none⟩) (64 * qOf bs.length) cap) rfl])]) (B := fun x => [(x.2, obj 3 [P1 (vI 64) rfl])]) (p := fun _ => True) Tryz.call117 rfl rfl (fun w _ => slices_Chunk0 _ _ _ 64 (by decide) w) (fun x _ => ?_))
    refine j_obj b3 (ps' := s8 (blks (padded bs) 0)) rfl (by rfl) ?_
    refine c_nil ?_
    refine c_block ?_
    refine c_rangeK (X := Nat) (Z := Empty) [2, 3] [b2, bd, x.1, x.2] rfl (fun Mk y => [(b3, obj 185 (s8 (blks (padded bs) y)))] :: Mk) (fun k y => y = k ∧ k ≤ qOf bs.length) (fun _ z => nomatch z) (fun _ z => nomatch z) (fun Ek vs => (6, vs.getD 0 undef) :: Ek) 0 ⟨rfl, Nat.zero_le _⟩ rfl Tryz.call129 (iter_Chunk x.1 x.2 bd 0 cap 64 (qOf bs.length) (by decide) hcap (by unfold qOf; omega)) (fun k y w hp hS => ptsM hS) (by simp) rfl ?_ ?_ ?_ (fun _ _ z => nomatch z)
    ·
      intro l k y vs w hp hvs
      obtain ⟨rfl, hkq⟩ := hp
      obtain ⟨hk2, rfl⟩ : y < qOf bs.length ∧ vs = [.slice (some ⟨bd, 0 + 64 * y, none⟩) 64 64] := by
        rw [List.getElem?_map] at hvs
        rcases Nat.lt_or_ge y (qOf bs.length) with h | h
        · rw [List.getElem?_range h] at hvs; simp at hvs; exact ⟨h, by rw [← hvs]; simp⟩
        · rw [List.getElem?_eq_none (by simpa using h)] at hvs; cases hvs
      refine i_region ?_
      refine i_op rfl (o_y (y_assign rfl) rfl ?_)
      refine i_nil ?_
      exact k_assigned ⟨rfl, rfl, rfl, trivial⟩
    ·
      intro l k y vs w hp hvs
      obtain ⟨rfl, hkq⟩ := hp
      obtain ⟨hk2, rfl⟩ : y < qOf bs.length ∧ vs = [.slice (some ⟨bd, 0 + 64 * y, none⟩) 64 64] := by
        rw [List.getElem?_map] at hvs
        rcases Nat.lt_or_ge y (qOf bs.length) with h | h
        · rw [List.getElem?_range h] at hvs; simp at hvs; exact ⟨h, by rw [← hvs]; simp⟩
        · rw [List.getElem?_eq_none (by simpa using h)] at hvs; cases hvs
      refine i_block ?_
      refine i_region ?_
      refine i_op rfl (o_y (y_move rfl) rfl ?_)
      refine i_op rfl (o_callS (T := [(b3, obj 185 (s8 (blks (padded bs) y)))]) (T' := [(b3, obj 185 (s8 (blk8 (blks (padded bs) y) (chunk (padded bs) y))))]) (v := .tuple #[]) Tryz.call118 rfl rfl (fun w hw => dig_block b3 bd (0 + 64 * y) 64 (By (padded bs) ++ sp) 5 (0, 0) _ (chunk (padded bs) y) (by decide) (fun j hj => by rw [Nat.zero_add]; exact chunk_get _ _ _ hj (by rw [hq]; omega)) w (mem_pts inferInstance w hw) (mem_pts inferInstance w hw) (ne_blk (mem_pts inferInstance w hw) (mem_pts inferInstance w hw) (by decide))) ?_)
      refine i_nil ?_
      refine j_obj b3 (ps' := s8 (blks (padded bs) (y + 1))) rfl (by rfl) ?_
      exact k_normal (y + 1) ⟨rfl, hk2⟩
    ·
      intro bD1 y hp
      rw [List.length_map, List.length_range] at hp
      obtain ⟨rfl, _⟩ := hp
      refine c_seq ?_
      refine c_region ?_
      refine seqq (o_alloc (ps := [zleaf .u8 8 32]) Tryz.zeroValue26 (by kernel_rfl) rfl (fun b7 => ?_))
      refine c_nil ?_
      refine c_seq ?_
      refine c_seq ?_
      refine c_region ?_
      refine seqq (o_y (y_move rfl) rfl ?_)
      refine c_nil ?_
      refine c_block ?_
      refine c_loop 33 ?_
      refine c_round ?_
      refine c_seq ?_
      refine c_region ?_
      refine seqq (o_y (y_binZ (v := .bool true) rfl rfl (fun _ => by rfl)) rfl ?_)
      refine c_nil ?_
      refine c_seq ?_
      refine c_condT rfl ?_
      refine c_skip ?_
      refine c_seq ?_
      refine c_block ?_
      refine c_seq ?_
      refine c_region ?_
      refine seqq (o_y (y_move rfl) rfl ?_)
      refine seqq (o_y (y_assign rfl) rfl ?_)
      refine c_nil ?_
      refine c_region ?_
      refine seqq (o_y (y_move rfl) rfl ?_)
      refine seqq (o_y (y_move rfl) rfl ?_)
      refine seqq (o_y (y_binZ (v := .int .i64 0) rfl rfl (fun _ => by rfl)) rfl ?_)
      refine seqq (o_y (y_indexAddrA Tryz.runUnderlying185 Tryz.sizeOf22 rfl rfl (by decide)) rfl ?_)
      refine seqq (o_y (l1 Tryz.isAgg22 rfl (by rfl)) rfl ?_)
      refine seqq (o_y (y_move rfl) rfl ?_)
      refine seqq (o_y (y_binZ (v := .int .i64 0) rfl rfl (fun _ => by rfl)) rfl ?_)
      refine seqq (o_y (y_binZ (v := .int .i64 0) rfl rfl (fun _ => by rfl)) rfl ?_)
      refine seqq (o_y (y_binZ (v := .int .i64 24) rfl rfl (fun _ => by rfl)) rfl ?_)
      refine seqq (o_y (y_shrB (s := 24) UK.u32 rfl rfl) rfl ?_)
      refine seqq (o_y (y_convB UK.u8 Tryz.runUnderlying22 Tryz.runUnderlying5 rfl) rfl ?_)
      refine seqq (o_y (y_indexAddrA Tryz.runUnderlying26 Tryz.sizeOf5 rfl rfl (by decide)) rfl ?_)
      refine seqq (o_storeE Tryz.sizeOf5 rfl rfl 0 (by rfl) (by decide) (by rfl) ?_)
      refine c_nil ?_
      refine c_region ?_
      refine seqq (o_y (y_binZ (v := .int .i64 1) rfl rfl (fun _ => by rfl)) rfl ?_)
      refine seqq (o_y (y_move rfl) rfl ?_)
      refine c_nil ?_
      refine c_round ?_
      refine c_seq ?_
      refine c_region ?_
      refine seqq (o_y (y_binZ (v := .bool true) rfl rfl (fun _ => by rfl)) rfl ?_)
      refine c_nil ?_
      refine c_seq ?_
      refine c_condT rfl ?_
      refine c_skip ?_
      refine c_seq ?_
      refine c_block ?_
      refine c_seq ?_
      refine c_region ?_
      refine seqq (o_y (y_move rfl) rfl ?_)
      refine seqq (o_y (y_assign rfl) rfl ?_)
      refine c_nil ?_
      refine c_region ?_
      refine seqq (o_y (y_move rfl) rfl ?_)
      refine seqq (o_y (y_move rfl) rfl ?_)
      refine seqq (o_y (y_binZ (v := .int .i64 0) rfl rfl (fun _ => by rfl)) rfl ?_)
      refine seqq (o_y (y_indexAddrA Tryz.runUnderlying185 Tryz.sizeOf22 rfl rfl (by decide)) rfl ?_)
      refine seqq (o_y (l1 Tryz.isAgg22 rfl (by rfl)) rfl ?_)
      refine seqq (o_y (y_move rfl) rfl ?_)
      refine seqq (o_y (y_binZ (v := .int .i64 1) rfl rfl (fun _ => by rfl)) rfl ?_)
      refine seqq (o_y (y_binZ (v := .int .i64 8) rfl rfl (fun _ => by rfl)) rfl ?_)
      refine seqq (o_y (y_binZ (v := .int .i64 16) rfl rfl (fun _ => by rfl)) rfl ?_)
      refine seqq (o_y (y_shrB (s := 16) UK.u32 rfl rfl) rfl ?_)
      refine seqq (o_y (y_convB UK.u8 Tryz.runUnderlying22 Tryz.runUnderlying5 rfl) rfl ?_)
      refine seqq (o_y (y_indexAddrA Tryz.runUnderlying26 Tryz.sizeOf5 rfl rfl (by decide)) rfl ?_)
      refine seqq (o_storeE Tryz.sizeOf5 rfl rfl 1 (by rfl) (by decide) (by rfl) ?_)
      refine c_nil ?_
      refine c_region ?_
      refine seqq (o_y (y_binZ (v := .int .i64 2) rfl rfl (fun _ => by rfl)) rfl ?_)
      refine seqq (o_y (y_move rfl) rfl ?_)
      refine c_nil ?_
      refine c_round ?_
      refine c_seq ?_
      refine c_region ?_
      refine seqq (o_y (y_binZ (v := .bool true) rfl rfl (fun _ => by rfl)) rfl ?_)
      refine c_nil ?_
      refine c_seq ?_
      refine c_condT rfl ?_
      refine c_skip ?_
      refine c_seq ?_
      refine c_block ?_
      refine c_seq ?_
      refine c_region ?_
      refine seqq (o_y (y_move rfl) rfl ?_)
      refine seqq (o_y (y_assign rfl) rfl ?_)
      refine c_nil ?_
      refine c_region ?_
      refine seqq (o_y (y_move rfl) rfl ?_)
      refine seqq (o_y (y_move rfl) rfl ?_)
      refine seqq (o_y (y_binZ (v := .int .i64 0) rfl rfl (fun _ => by rfl)) rfl ?_)
      refine seqq (o_y (y_indexAddrA Tryz.runUnderlying185 Tryz.sizeOf22 rfl rfl (by decide)) rfl ?_)
      refine seqq (o_y (l1 Tryz.isAgg22 rfl (by rfl)) rfl ?_)
      refine seqq (o_y (y_move rfl) rfl ?_)
      refine seqq (o_y (y_binZ (v := .int .i64 2) rfl rfl (fun _ => by rfl)) rfl ?_)
      refine seqq (o_y (y_binZ (v := .int .i64 16) rfl rfl (fun _ => by rfl)) rfl ?_)
      refine seqq (o_y (y_binZ (v := .int .i64 8) rfl rfl (fun _ => by rfl)) rfl ?_)
      refine seqq (o_y (y_shrB (s := 8) UK.u32 rfl rfl) rfl ?_)
      refine seqq (o_y (y_convB UK.u8 Tryz.runUnderlying22 Tryz.runUnderlying5 rfl) rfl ?_)
      refine seqq (o_y (y_indexAddrA Tryz.runUnderlying26 Tryz.sizeOf5 rfl rfl (by decide)) rfl ?_)
      refine seqq (o_storeE Tryz.sizeOf5 rfl rfl 2 (by rfl) (by decide) (by rfl) ?_)
      refine c_nil ?_
      refine c_region ?_
      refine seqq (o_y (y_binZ (v := .int .i64 3) rfl rfl (fun _ => by rfl)) rfl ?_)
      refine seqq (o_y (y_move rfl) rfl ?_)
      refine c_nil ?_
      refine c_round ?_
      refine c_seq ?_
      refine c_region ?_
      refine seqq (o_y (y_binZ (v := .bool true) rfl rfl (fun _ => by rfl)) rfl ?_)
      refine c_nil ?_
      refine c_seq ?_
      refine c_condT rfl ?_
      refine c_skip ?_
      refine c_seq ?_
      refine c_block ?_
      refine c_seq ?_
      refine c_region ?_
      refine seqq (o_y (y_move rfl) rfl ?_)
      refine seqq (o_y (y_assign rfl) rfl ?_)
      refine c_nil ?_
      refine c_region ?_
      refine seqq (o_y (y_move rfl) rfl ?_)
      refine seqq (o_y (y_move rfl) rfl ?_)
      refine seqq (o_y (y_binZ (v := .int .i64 0) rfl rfl (fun _ => by rfl)) rfl ?_)
      refine seqq (o_y (y_indexAddrA Tryz.runUnderlying185 Tryz.sizeOf22 rfl rfl (by decide)) rfl ?_)
      refine seqq (o_y (l1 Tryz.isAgg22 rfl (by rfl)) rfl ?_)
      refine seqq (o_y (y_move rfl) rfl ?_)
      refine seqq (o_y (y_binZ (v := .int .i64 3) rfl rfl (fun _ => by rfl)) rfl ?_)
      refine seqq (o_y (y_binZ (v := .int .i64 24) rfl rfl (fun _ => by rfl)) rfl ?_)
      refine seqq (o_y (y_binZ (v := .int .i64 0) rfl rfl (fun _ => by rfl)) rfl ?_)
      refine seqq (o_y (y_shrB (s := 0) UK.u32 rfl rfl) rfl ?_)
      refine seqq (o_y (y_convB UK.u8 Tryz.runUnderlying22 Tryz.runUnderlying5 rfl) rfl ?_)
      refine seqq (o_y (y_indexAddrA Tryz.runUnderlying26 Tryz.sizeOf5 rfl rfl (by decide)) rfl ?_)
      refine seqq (o_storeE Tryz.sizeOf5 rfl rfl 3 (by rfl) (by decide) (by rfl) ?_)
      refine c_nil ?_
      refine c_region ?_
      refine seqq (o_y (y_binZ (v := .int .i64 4) rfl rfl (fun _ => by rfl)) rfl ?_)
      refine seqq (o_y (y_move rfl) rfl ?_)
      refine c_nil ?_
      refine c_round ?_
      refine c_seq ?_
      refine c_region ?_
      refine seqq (o_y (y_binZ (v := .bool true) rfl rfl (fun _ => by rfl)) rfl ?_)
      refine c_nil ?_
      refine c_seq ?_
      refine c_condT rfl ?_
      refine c_skip ?_
      refine c_seq ?_
      refine c_block ?_
      refine c_seq ?_
      refine c_region ?_
      refine seqq (o_y (y_move rfl) rfl ?_)
      refine seqq (o_y (y_assign rfl) rfl ?_)
      refine c_nil ?_
      refine c_region ?_
      refine seqq (o_y (y_move rfl) rfl ?_)
      refine seqq (o_y (y_move rfl) rfl ?_)
      refine seqq (o_y (y_binZ (v := .int .i64 1) rfl rfl (fun _ => by rfl)) rfl ?_)
      refine seqq (o_y (y_indexAddrA Tryz.runUnderlying185 Tryz.sizeOf22 rfl rfl (by decide)) rfl ?_)
      refine seqq (o_y (l1 Tryz.isAgg22 rfl (by rfl)) rfl ?_)
      refine seqq (o_y (y_move rfl) rfl ?_)
      refine seqq (o_y (y_binZ (v := .int .i64 0) rfl rfl (fun _ => by rfl)) rfl ?_)
      refine seqq (o_y (y_binZ (v := .int .i64 0) rfl rfl (fun _ => by rfl)) rfl ?_)
      refine seqq (o_y (y_binZ (v := .int .i64 24) rfl rfl (fun _ => by rfl)) rfl ?_)
      refine seqq (o_y (y_shrB (s := 24) UK.u32 rfl rfl) rfl ?_)
      refine seqq (o_y (y_convB UK.u8 Tryz.runUnderlying22 Tryz.runUnderlying5 rfl) rfl ?_)
      refine seqq (o_y (y_indexAddrA Tryz.runUnderlying26 Tryz.sizeOf5 rfl rfl (by decide)) rfl ?_)
      refine seqq (o_storeE Tryz.sizeOf5 rfl rfl 4 (by rfl) (by decide) (by rfl) ?_)
      refine c_nil ?_
      refine c_region ?_
      refine seqq (o_y (y_binZ (v := .int .i64 5) rfl rfl (fun _ => by rfl)) rfl ?_)
      refine seqq (o_y (y_move rfl) rfl ?_)
      refine c_nil ?_
      refine c_round ?_
      refine c_seq ?_
      refine c_region ?_
      refine seqq (o_y (y_binZ (v := .bool true) rfl rfl (fun _ => by rfl)) rfl ?_)
      refine c_nil ?_
      refine c_seq ?_
      refine c_condT rfl ?_
      refine c_skip ?_
      refine c_seq ?_
      refine c_block ?_
      refine c_seq ?_
      refine c_region ?_
      refine seqq (o_y (y_move rfl) rfl ?_)
      refine seqq (o_y (y_assign rfl) rfl ?_)
      refine c_nil ?_
      refine c_region ?_
      refine seqq (o_y (y_move rfl) rfl ?_)
      refine seqq (o_y (y_move rfl) rfl ?_)
      refine seqq (o_y (y_binZ (v := .int .i64 1) rfl rfl (fun _ => by rfl)) rfl ?_)
      refine seqq (o_y (y_indexAddrA Tryz.runUnderlying185 Tryz.sizeOf22 rfl rfl (by decide)) rfl ?_)
      refine seqq (o_y (l1 Tryz.isAgg22 rfl (by rfl)) rfl ?_)
      refine seqq (o_y (y_move rfl) rfl ?_)
      refine seqq (o_y (y_binZ (v := .int .i64 1) rfl rfl (fun _ => by rfl)) rfl ?_)
      refine seqq (o_y (y_binZ (v := .int .i64 8) rfl rfl (fun _ => by rfl)) rfl ?_)
      refine seqq (o_y (y_binZ (v := .int .i64 16) rfl rfl (fun _ => by rfl)) rfl ?_)
      refine seqq (o_y (y_shrB (s := 16) UK.u32 rfl rfl) rfl ?_)
      refine seqq (o_y (y_convB UK.u8 Tryz.runUnderlying22 Tryz.runUnderlying5 rfl) rfl ?_)
      refine seqq (o_y (y_indexAddrA Tryz.runUnderlying26 Tryz.sizeOf5 rfl rfl (by decide)) rfl ?_)
      refine seqq (o_storeE Tryz.sizeOf5 rfl rfl 5 (by rfl) (by decide) (by rfl) ?_)
      refine c_nil ?_
      refine c_region ?_
      refine seqq (o_y (y_binZ (v := .int .i64 6) rfl rfl (fun _ => by rfl)) rfl ?_)
      refine seqq (o_y (y_move rfl) rfl ?_)
      refine c_nil ?_
      refine c_round ?_
      refine c_seq ?_
      refine c_region ?_
      refine seqq (o_y (y_binZ (v := .bool true) rfl rfl (fun _ => by rfl)) rfl ?_)
      refine c_nil ?_
      refine c_seq ?_
      refine c_condT rfl ?_
      refine c_skip ?_
      refine c_seq ?_
      refine c_block ?_
      refine c_seq ?_
      refine c_region ?_
      refine seqq (o_y (y_move rfl) rfl ?_)
      refine seqq (o_y (y_assign rfl) rfl ?_)
      refine c_nil ?_
      refine c_region ?_
      refine seqq (o_y (y_move rfl) rfl ?_)
      refine seqq (o_y (y_move rfl) rfl ?_)
      refine seqq (o_y (y_binZ (v := .int .i64 1) rfl rfl (fun _ => by rfl)) rfl ?_)
      refine seqq (o_y (y_indexAddrA Tryz.runUnderlying185 Tryz.sizeOf22 rfl rfl (by decide)) rfl ?_)
      refine seqq (o_y (l1 Tryz.isAgg22 rfl (by rfl)) rfl ?_)
      refine seqq (o_y (y_move rfl) rfl ?_)
      refine seqq (o_y (y_binZ (v := .int .i64 2) rfl rfl (fun _ => by rfl)) rfl ?_)
      refine seqq (o_y (y_binZ (v := .int .i64 16) rfl rfl (fun _ => by rfl)) rfl ?_)
      refine seqq (o_y (y_binZ (v := .int .i64 8) rfl rfl (fun _ => by rfl)) rfl ?_)
      refine seqq (o_y (y_shrB (s := 8) UK.u32 rfl rfl) rfl ?_)
      refine seqq (o_y (y_convB UK.u8 Tryz.runUnderlying22 Tryz.runUnderlying5 rfl) rfl ?_)
      refine seqq (o_y (y_indexAddrA Tryz.runUnderlying26 Tryz.sizeOf5 rfl rfl (by decide)) rfl ?_)
      refine seqq (o_storeE Tryz.sizeOf5 rfl rfl 6 (by rfl) (by decide) (by rfl) ?_)
      refine c_nil ?_
      refine c_region ?_
      refine seqq (o_y (y_binZ (v := .int .i64 7) rfl rfl (fun _ => by rfl)) rfl ?_)
      refine seqq (o_y (y_move rfl) rfl ?_)
      refine c_nil ?_
      refine c_round ?_
      refine c_seq ?_
      refine c_region ?_
      refine seqq (o_y (y_binZ (v := .bool true) rfl rfl (fun _ => by rfl)) rfl ?_)
      refine c_nil ?_
      refine c_seq ?_
      refine c_condT rfl ?_
      refine c_skip ?_
      refine c_seq ?_
      refine c_block ?_
      refine c_seq ?_
      refine c_region ?_
      refine seqq (o_y (y_move rfl) rfl ?_)
      refine seqq (o_y (y_assign rfl) rfl ?_)
      refine c_nil ?_
      refine c_region ?_
      refine seqq (o_y (y_move rfl) rfl ?_)
      refine seqq (o_y (y_move rfl) rfl ?_)
      refine seqq (o_y (y_binZ (v := .int .i64 1) rfl rfl (fun _ => by rfl)) rfl ?_)
      refine seqq (o_y (y_indexAddrA Tryz.runUnderlying185 Tryz.sizeOf22 rfl rfl (by decide)) rfl ?_)
      refine seqq (o_y (l1 Tryz.isAgg22 rfl (by rfl)) rfl ?_)
      refine seqq (o_y (y_move rfl) rfl ?_)
      refine seqq (o_y (y_binZ (v := .int .i64 3) rfl rfl (fun _ => by rfl)) rfl ?_)
      refine seqq (o_y (y_binZ (v := .int .i64 24) rfl rfl (fun _ => by rfl)) rfl ?_)
      refine seqq (o_y (y_binZ (v := .int .i64 0) rfl rfl (fun _ => by rfl)) rfl ?_)
      refine seqq (o_y (y_shrB (s := 0) UK.u32 rfl rfl) rfl ?_)
      refine seqq (o_y (y_convB UK.u8 Tryz.runUnderlying22 Tryz.runUnderlying5 rfl) rfl ?_)
      refine seqq (o_y (y_indexAddrA Tryz.runUnderlying26 Tryz.sizeOf5 rfl rfl (by decide)) rfl ?_)
      refine seqq (o_storeE Tryz.sizeOf5 rfl rfl 7 (by rfl) (by decide) (by rfl) ?_)
      refine c_nil ?_
      refine c_region ?_
      refine seqq (o_y (y_binZ (v := .int .i64 8) rfl rfl (fun _ => by rfl)) rfl ?_)
      refine seqq (o_y (y_move rfl) rfl ?_)
      refine c_nil ?_
      refine c_round ?_
      refine c_seq ?_
      refine c_region ?_
      refine seqq (o_y (y_binZ (v := .bool true) rfl rfl (fun _ => by rfl)) rfl ?_)
      refine c_nil ?_
      refine c_seq ?_
      refine c_condT rfl ?_
      refine c_skip ?_
      refine c_seq ?_
      refine c_block ?_
      refine c_seq ?_
      refine c_region ?_
      refine seqq (o_y (y_move rfl) rfl ?_)
      refine seqq (o_y (y_assign rfl) rfl ?_)
      refine c_nil ?_
      refine c_region ?_
      refine seqq (o_y (y_move rfl) rfl ?_)
      refine seqq (o_y (y_move rfl) rfl ?_)
      refine seqq (o_y (y_binZ (v := .int .i64 2) rfl rfl (fun _ => by rfl)) rfl ?_)
      refine seqq (o_y (y_indexAddrA Tryz.runUnderlying185 Tryz.sizeOf22 rfl rfl (by decide)) rfl ?_)
      refine seqq (o_y (l1 Tryz.isAgg22 rfl (by rfl)) rfl ?_)
      refine seqq (o_y (y_move rfl) rfl ?_)
      refine seqq (o_y (y_binZ (v := .int .i64 0) rfl rfl (fun _ => by rfl)) rfl ?_)
      refine seqq (o_y (y_binZ (v := .int .i64 0) rfl rfl (fun _ => by rfl)) rfl ?_)
      refine seqq (o_y (y_binZ (v := .int .i64 24) rfl rfl (fun _ => by rfl)) rfl ?_)
      refine seqq (o_y (y_shrB (s := 24) UK.u32 rfl rfl) rfl ?_)
      refine seqq (o_y (y_convB UK.u8 Tryz.runUnderlying22 Tryz.runUnderlying5 rfl) rfl ?_)
      refine seqq (o_y (y_indexAddrA Tryz.runUnderlying26 Tryz.sizeOf5 rfl rfl (by decide)) rfl ?_)
      refine seqq (o_storeE Tryz.sizeOf5 rfl rfl 8 (by rfl) (by decide) (by rfl) ?_)
      refine c_nil ?_
      refine c_region ?_
      refine seqq (o_y (y_binZ (v := .int .i64 9) rfl rfl (fun _ => by rfl)) rfl ?_)
      refine seqq (o_y (y_move rfl) rfl ?_)
      refine c_nil ?_
      refine c_round ?_
      refine c_seq ?_
      refine c_region ?_
      refine seqq (o_y (y_binZ (v := .bool true) rfl rfl (fun _ => by rfl)) rfl ?_)
      refine c_nil ?_
      refine c_seq ?_
      refine c_condT rfl ?_
      refine c_skip ?_
      refine c_seq ?_
      refine c_block ?_
      refine c_seq ?_
      refine c_region ?_
      refine seqq (o_y (y_move rfl) rfl ?_)
      refine seqq (o_y (y_assign rfl) rfl ?_)
      refine c_nil ?_
      refine c_region ?_
      refine seqq (o_y (y_move rfl) rfl ?_)
      refine seqq (o_y (y_move rfl) rfl ?_)
      refine seqq (o_y (y_binZ (v := .int .i64 2) rfl rfl (fun _ => by rfl)) rfl ?_)
      refine seqq (o_y (y_indexAddrA Tryz.runUnderlying185 Tryz.sizeOf22 rfl rfl (by decide)) rfl ?_)
      refine seqq (o_y (l1 Tryz.isAgg22 rfl (by rfl)) rfl ?_)
      refine seqq (o_y (y_move rfl) rfl ?_)
      refine seqq (o_y (y_binZ (v := .int .i64 1) rfl rfl (fun _ => by rfl)) rfl ?_)
      refine seqq (o_y (y_binZ (v := .int .i64 8) rfl rfl (fun _ => by rfl)) rfl ?_)
      refine seqq (o_y (y_binZ (v := .int .i64 16) rfl rfl (fun _ => by rfl)) rfl ?_)
      refine seqq (o_y (y_shrB (s := 16) UK.u32 rfl rfl) rfl ?_)
      refine seqq (o_y (y_convB UK.u8 Tryz.runUnderlying22 Tryz.runUnderlying5 rfl) rfl ?_)
      refine seqq (o_y (y_indexAddrA Tryz.runUnderlying26 Tryz.sizeOf5 rfl rfl (by decide)) rfl ?_)
      refine seqq (o_storeE Tryz.sizeOf5 rfl rfl 9 (by rfl) (by decide) (by rfl) ?_)
      refine c_nil ?_
      refine c_region ?_
      refine seqq (o_y (y_binZ (v := .int .i64 10) rfl rfl (fun _ => by rfl)) rfl ?_)
      refine seqq (o_y (y_move rfl) rfl ?_)
      refine c_nil ?_
      refine c_round ?_
      refine c_seq ?_
      refine c_region ?_
      refine seqq (o_y (y_binZ (v := .bool true) rfl rfl (fun _ => by rfl)) rfl ?_)
      refine c_nil ?_
      refine c_seq ?_
      refine c_condT rfl ?_
      refine c_skip ?_
      refine c_seq ?_
      refine c_block ?_
      refine c_seq ?_
      refine c_region ?_
      refine seqq (o_y (y_move rfl) rfl ?_)
      refine seqq (o_y (y_assign rfl) rfl ?_)
      refine c_nil ?_
      refine c_region ?_
      refine seqq (o_y (y_move rfl) rfl ?_)
      refine seqq (o_y (y_move rfl) rfl ?_)
      refine seqq (o_y (y_binZ (v := .int .i64 2) rfl rfl (fun _ => by rfl)) rfl ?_)
      refine seqq (o_y (y_indexAddrA Tryz.runUnderlying185 Tryz.sizeOf22 rfl rfl (by decide)) rfl ?_)
      refine seqq (o_y (l1 Tryz.isAgg22 rfl (by rfl)) rfl ?_)
      refine seqq (o_y (y_move rfl) rfl ?_)
      refine seqq (o_y (y_binZ (v := .int .i64 2) rfl rfl (fun _ => by rfl)) rfl ?_)
      refine seqq (o_y (y_binZ (v := .int .i64 16) rfl rfl (fun _ => by rfl)) rfl ?_)
      refine seqq (o_y (y_binZ (v := .int .i64 8) rfl rfl (fun _ => by rfl)) rfl ?_)
      refine seqq (o_y (y_shrB (s := 8) UK.u32 rfl rfl) rfl ?_)
      refine seqq (o_y (y_convB UK.u8 Tryz.runUnderlying22 Tryz.runUnderlying5 rfl) rfl ?_)
      refine seqq (o_y (y_indexAddrA Tryz.runUnderlying26 Tryz.sizeOf5 rfl rfl (by decide)) rfl ?_)
      refine seqq (o_storeE Tryz.sizeOf5 rfl rfl 10 (by rfl) (by decide) (by rfl) ?_)
      refine c_nil ?_
      refine c_region ?_
      refine seqq (o_y (y_binZ (v := .int .i64 11) rfl rfl (fun _ => by rfl)) rfl ?_)
      refine seqq (o_y (y_move rfl) rfl ?_)
      refine c_nil ?_
      refine c_round ?_
      refine c_seq ?_
      refine c_region ?_
      refine seqq (o_y (y_binZ (v := .bool true) rfl rfl (fun _ => by rfl)) rfl ?_)
      refine c_nil ?_
      refine c_seq ?_
      refine c_condT rfl ?_
      refine c_skip ?_
      refine c_seq ?_
      refine c_block ?_
      refine c_seq ?_
      refine c_region ?_
      refine seqq (o_y (y_move rfl) rfl ?_)
      refine seqq (o_y (y_assign rfl) rfl ?_)
      refine c_nil ?_
      refine c_region ?_
      refine seqq (o_y (y_move rfl) rfl ?_)
      refine seqq (o_y (y_move rfl) rfl ?_)
      refine seqq (o_y (y_binZ (v := .int .i64 2) rfl rfl (fun _ => by rfl)) rfl ?_)
      refine seqq (o_y (y_indexAddrA Tryz.runUnderlying185 Tryz.sizeOf22 rfl rfl (by decide)) rfl ?_)
      refine seqq (o_y (l1 Tryz.isAgg22 rfl (by rfl)) rfl ?_)
      refine seqq (o_y (y_move rfl) rfl ?_)
      refine seqq (o_y (y_binZ (v := .int .i64 3) rfl rfl (fun _ => by rfl)) rfl ?_)
      refine seqq (o_y (y_binZ (v := .int .i64 24) rfl rfl (fun _ => by rfl)) rfl ?_)
      refine seqq (o_y (y_binZ (v := .int .i64 0) rfl rfl (fun _ => by rfl)) rfl ?_)
      refine seqq (o_y (y_shrB (s := 0) UK.u32 rfl rfl) rfl ?_)
      refine seqq (o_y (y_convB UK.u8 Tryz.runUnderlying22 Tryz.runUnderlying5 rfl) rfl ?_)
      refine seqq (o_y (y_indexAddrA Tryz.runUnderlying26 Tryz.sizeOf5 rfl rfl (by decide)) rfl ?_)
      refine seqq (o_storeE Tryz.sizeOf5 rfl rfl 11 (by rfl) (by decide) (by rfl) ?_)
      refine c_nil ?_
      refine c_region ?_
      refine seqq (o_y (y_binZ (v := .int .i64 12) rfl rfl (fun _ => by rfl)) rfl ?_)
      refine seqq (o_y (y_move rfl) rfl ?_)
      refine c_nil ?_
      refine c_round ?_
      refine c_seq ?_
      refine c_region ?_
      refine seqq (o_y (y_binZ (v := .bool true) rfl rfl (fun _ => by rfl)) rfl ?_)
      refine c_nil ?_
      refine c_seq ?_
      refine c_condT rfl ?_
      refine c_skip ?_
      refine c_seq ?_
      refine c_block ?_
      refine c_seq ?_
      refine c_region ?_
      refine seqq (o_y (y_move rfl) rfl ?_)
      refine seqq (o_y (y_assign rfl) rfl ?_)
      refine c_nil ?_
      refine c_region ?_
      refine seqq (o_y (y_move rfl) rfl ?_)
      refine seqq (o_y (y_move rfl) rfl ?_)
      refine seqq (o_y (y_binZ (v := .int .i64 3) rfl rfl (fun _ => by rfl)) rfl ?_)
      refine seqq (o_y (y_indexAddrA Tryz.runUnderlying185 Tryz.sizeOf22 rfl rfl (by decide)) rfl ?_)
      refine seqq (o_y (l1 Tryz.isAgg22 rfl (by rfl)) rfl ?_)
      refine seqq (o_y (y_move rfl) rfl ?_)
      refine seqq (o_y (y_binZ (v := .int .i64 0) rfl rfl (fun _ => by rfl)) rfl ?_)
      refine seqq (o_y (y_binZ (v := .int .i64 0) rfl rfl (fun _ => by rfl)) rfl ?_)
      refine seqq (o_y (y_binZ (v := .int .i64 24) rfl rfl (fun _ => by rfl)) rfl ?_)
      refine seqq (o_y (y_shrB (s := 24) UK.u32 rfl rfl) rfl ?_)
      refine seqq (o_y (y_convB UK.u8 Tryz.runUnderlying22 Tryz.runUnderlying5 rfl) rfl ?_)
      refine seqq (o_y (y_indexAddrA Tryz.runUnderlying26 Tryz.sizeOf5 rfl rfl (by decide)) rfl ?_)
      refine seqq (o_storeE Tryz.sizeOf5 rfl rfl 12 (by rfl) (by decide) (by rfl) ?_)
      refine c_nil ?_
      refine c_region ?_
      refine seqq (o_y (y_binZ (v := .int .i64 13) rfl rfl (fun _ => by rfl)) rfl ?_)
      refine seqq (o_y (y_move rfl) rfl ?_)
      refine c_nil ?_
      refine c_round ?_
      refine c_seq ?_
      refine c_region ?_
      refine seqq (o_y (y_binZ (v := .bool true) rfl rfl (fun _ => by rfl)) rfl ?_)
      refine c_nil ?_
      refine c_seq ?_
      refine c_condT rfl ?_
      refine c_skip ?_
      refine c_seq ?_
      refine c_block ?_
      refine c_seq ?_
      refine c_region ?_
      refine seqq (o_y (y_move rfl) rfl ?_)
      refine seqq (o_y (y_assign rfl) rfl ?_)
      refine c_nil ?_
      refine c_region ?_
      refine seqq (o_y (y_move rfl) rfl ?_)
      refine seqq (o_y (y_move rfl) rfl ?_)
      refine seqq (o_y (y_binZ (v := .int .i64 3) rfl rfl (fun _ => by rfl)) rfl ?_)
      refine seqq (o_y (y_indexAddrA Tryz.runUnderlying185 Tryz.sizeOf22 rfl rfl (by decide)) rfl ?_)
      refine seqq (o_y (l1 Tryz.isAgg22 rfl (by rfl)) rfl ?_)
      refine seqq (o_y (y_move rfl) rfl ?_)
      refine seqq (o_y (y_binZ (v := .int .i64 1) rfl rfl (fun _ => by rfl)) rfl ?_)
      refine seqq (o_y (y_binZ (v := .int .i64 8) rfl rfl (fun _ => by rfl)) rfl ?_)
      refine seqq (o_y (y_binZ (v := .int .i64 16) rfl rfl (fun _ => by rfl)) rfl ?_)
      refine seqq (o_y (y_shrB (s := 16) UK.u32 rfl rfl) rfl ?_)
      refine seqq (o_y (y_convB UK.u8 Tryz.runUnderlying22 Tryz.runUnderlying5 rfl) rfl ?_)
      refine seqq (o_y (y_indexAddrA Tryz.runUnderlying26 Tryz.sizeOf5 rfl rfl (by decide)) rfl ?_)
      refine seqq (o_storeE Tryz.sizeOf5 rfl rfl 13 (by rfl) (by decide) (by rfl) ?_)
      refine c_nil ?_
      refine c_region ?_
      refine seqq (o_y (y_binZ (v := .int .i64 14) rfl rfl (fun _ => by rfl)) rfl ?_)
      refine seqq (o_y (y_move rfl) rfl ?_)
      refine c_nil ?_
      refine c_round ?_
      refine c_seq ?_
      refine c_region ?_
      refine seqq (o_y (y_binZ (v := .bool true) rfl rfl (fun _ => by rfl)) rfl ?_)
      refine c_nil ?_
      refine c_seq ?_
      refine c_condT rfl ?_
      refine c_skip ?_
      refine c_seq ?_
      refine c_block ?_
      refine c_seq ?_
      refine c_region ?_
      refine seqq (o_y (y_move rfl) rfl ?_)
      refine seqq (o_y (y_assign rfl) rfl ?_)
      refine c_nil ?_
      refine c_region ?_
      refine seqq (o_y (y_move rfl) rfl ?_)
      refine seqq (o_y (y_move rfl) rfl ?_)
      refine seqq (o_y (y_binZ (v := .int .i64 3) rfl rfl (fun _ => by rfl)) rfl ?_)
      refine seqq (o_y (y_indexAddrA Tryz.runUnderlying185 Tryz.sizeOf22 rfl rfl (by decide)) rfl ?_)
      refine seqq (o_y (l1 Tryz.isAgg22 rfl (by rfl)) rfl ?_)
      refine seqq (o_y (y_move rfl) rfl ?_)
      refine seqq (o_y (y_binZ (v := .int .i64 2) rfl rfl (fun _ => by rfl)) rfl ?_)
      refine seqq (o_y (y_binZ (v := .int .i64 16) rfl rfl (fun _ => by rfl)) rfl ?_)
      refine seqq (o_y (y_binZ (v := .int .i64 8) rfl rfl (fun _ => by rfl)) rfl ?_)
      refine seqq (o_y (y_shrB (s := 8) UK.u32 rfl rfl) rfl ?_)
      refine seqq (o_y (y_convB UK.u8 Tryz.runUnderlying22 Tryz.runUnderlying5 rfl) rfl ?_)
      refine seqq (o_y (y_indexAddrA Tryz.runUnderlying26 Tryz.sizeOf5 rfl rfl (by decide)) rfl ?_)
      refine seqq (o_storeE Tryz.sizeOf5 rfl rfl 14 (by rfl) (by decide) (by rfl) ?_)
      refine c_nil ?_
      refine c_region ?_
      refine seqq (o_y (y_binZ (v := .int .i64 15) rfl rfl (fun _ => by rfl)) rfl ?_)
      refine seqq (o_y (y_move rfl) rfl ?_)
      refine c_nil ?_
      refine c_round ?_
      refine c_seq ?_
      refine c_region ?_
      refine seqq (o_y (y_binZ (v := .bool true) rfl rfl (fun _ => by rfl)) rfl ?_)
      refine c_nil ?_
      refine c_seq ?_
      refine c_condT rfl ?_
      refine c_skip ?_
      refine c_seq ?_
      refine c_block ?_
      refine c_seq ?_
      refine c_region ?_
      refine seqq (o_y (y_move rfl) rfl ?_)
      refine seqq (o_y (y_assign rfl) rfl ?_)
      refine c_nil ?_
      refine c_region ?_
      refine seqq (o_y (y_move rfl) rfl ?_)
      refine seqq (o_y (y_move rfl) rfl ?_)
      refine seqq (o_y (y_binZ (v := .int .i64 3) rfl rfl (fun _ => by rfl)) rfl ?_)
      refine seqq (o_y (y_indexAddrA Tryz.runUnderlying185 Tryz.sizeOf22 rfl rfl (by decide)) rfl ?_)
      refine seqq (o_y (l1 Tryz.isAgg22 rfl (by rfl)) rfl ?_)
      refine seqq (o_y (y_move rfl) rfl ?_)
      refine seqq (o_y (y_binZ (v := .int .i64 3) rfl rfl (fun _ => by rfl)) rfl ?_)
      refine seqq (o_y (y_binZ (v := .int .i64 24) rfl rfl (fun _ => by rfl)) rfl ?_)
      refine seqq (o_y (y_binZ (v := .int .i64 0) rfl rfl (fun _ => by rfl)) rfl ?_)
      refine seqq (o_y (y_shrB (s := 0) UK.u32 rfl rfl) rfl ?_)
      refine seqq (o_y (y_convB UK.u8 Tryz.runUnderlying22 Tryz.runUnderlying5 rfl) rfl ?_)
      refine seqq (o_y (y_indexAddrA Tryz.runUnderlying26 Tryz.sizeOf5 rfl rfl (by decide)) rfl ?_)
      refine seqq (o_storeE Tryz.sizeOf5 rfl rfl 15 (by rfl) (by decide) (by rfl) ?_)
      refine c_nil ?_
      refine c_region ?_
      refine seqq (o_y (y_binZ (v := .int .i64 16) rfl rfl (fun _ => by rfl)) rfl ?_)
      refine seqq (o_y (y_move rfl) rfl ?_)
      refine c_nil ?_
      refine c_round ?_
      refine c_seq ?_
      refine c_region ?_
      refine seqq (o_y (y_binZ (v := .bool true) rfl rfl (fun _ => by rfl)) rfl ?_)
      refine c_nil ?_
      refine c_seq ?_
      refine c_condT rfl ?_
      refine c_skip ?_
      refine c_seq ?_
      refine c_block ?_
      refine c_seq ?_
      refine c_region ?_
      refine seqq (o_y (y_move rfl) rfl ?_)
      refine seqq (o_y (y_assign rfl) rfl ?_)
      refine c_nil ?_
      refine c_region ?_
      refine seqq (o_y (y_move rfl) rfl ?_)
      refine seqq (o_y (y_move rfl) rfl ?_)
      refine seqq (o_y (y_binZ (v := .int .i64 4) rfl rfl (fun _ => by rfl)) rfl ?_)
      refine seqq (o_y (y_indexAddrA Tryz.runUnderlying185 Tryz.sizeOf22 rfl rfl (by decide)) rfl ?_)
      refine seqq (o_y (l1 Tryz.isAgg22 rfl (by rfl)) rfl ?_)
      refine seqq (o_y (y_move rfl) rfl ?_)
      refine seqq (o_y (y_binZ (v := .int .i64 0) rfl rfl (fun _ => by rfl)) rfl ?_)
      refine seqq (o_y (y_binZ (v := .int .i64 0) rfl rfl (fun _ => by rfl)) rfl ?_)
      refine seqq (o_y (y_binZ (v := .int .i64 24) rfl rfl (fun _ => by rfl)) rfl ?_)
      refine seqq (o_y (y_shrB (s := 24) UK.u32 rfl rfl) rfl ?_)
      refine seqq (o_y (y_convB UK.u8 Tryz.runUnderlying22 Tryz.runUnderlying5 rfl) rfl ?_)
      refine seqq (o_y (y_indexAddrA Tryz.runUnderlying26 Tryz.sizeOf5 rfl rfl (by decide)) rfl ?_)
      refine seqq (o_storeE Tryz.sizeOf5 rfl rfl 16 (by rfl) (by decide) (by rfl) ?_)
      refine c_nil ?_
      refine c_region ?_
      refine seqq (o_y (y_binZ (v := .int .i64 17) rfl rfl (fun _ => by rfl)) rfl ?_)
      refine seqq (o_y (y_move rfl) rfl ?_)
      refine c_nil ?_
      refine c_round ?_
      refine c_seq ?_
      refine c_region ?_
      refine seqq (o_y (y_binZ (v := .bool true) rfl rfl (fun _ => by rfl)) rfl ?_)
      refine c_nil ?_
      refine c_seq ?_
      refine c_condT rfl ?_
      refine c_skip ?_
      refine c_seq ?_
      refine c_block ?_
      refine c_seq ?_
      refine c_region ?_
      refine seqq (o_y (y_move rfl) rfl ?_)
      refine seqq (o_y (y_assign rfl) rfl ?_)
      refine c_nil ?_
      refine c_region ?_
      refine seqq (o_y (y_move rfl) rfl ?_)
      refine seqq (o_y (y_move rfl) rfl ?_)
      refine seqq (o_y (y_binZ (v := .int .i64 4) rfl rfl (fun _ => by rfl)) rfl ?_)
      refine seqq (o_y (y_indexAddrA Tryz.runUnderlying185 Tryz.sizeOf22 rfl rfl (by decide)) rfl ?_)
      refine seqq (o_y (l1 Tryz.isAgg22 rfl (by rfl)) rfl ?_)
      refine seqq (o_y (y_move rfl) rfl ?_)
      refine seqq (o_y (y_binZ (v := .int .i64 1) rfl rfl (fun _ => by rfl)) rfl ?_)
      refine seqq (o_y (y_binZ (v := .int .i64 8) rfl rfl (fun _ => by rfl)) rfl ?_)
      refine seqq (o_y (y_binZ (v := .int .i64 16) rfl rfl (fun _ => by rfl)) rfl ?_)
      refine seqq (o_y (y_shrB (s := 16) UK.u32 rfl rfl) rfl ?_)
      refine seqq (o_y (y_convB UK.u8 Tryz.runUnderlying22 Tryz.runUnderlying5 rfl) rfl ?_)
      refine seqq (o_y (y_indexAddrA Tryz.runUnderlying26 Tryz.sizeOf5 rfl rfl (by decide)) rfl ?_)
      refine seqq (o_storeE Tryz.sizeOf5 rfl rfl 17 (by rfl) (by decide) (by rfl) ?_)
      refine c_nil ?_
      refine c_region ?_
      refine seqq (o_y (y_binZ (v := .int .i64 18) rfl rfl (fun _ => by rfl)) rfl ?_)
      refine seqq (o_y (y_move rfl) rfl ?_)
      refine c_nil ?_
      refine c_round ?_
      refine c_seq ?_
      refine c_region ?_
      refine seqq (o_y (y_binZ (v := .bool true) rfl rfl (fun _ => by rfl)) rfl ?_)
      refine c_nil ?_
      refine c_seq ?_
      refine c_condT rfl ?_
      refine c_skip ?_
      refine c_seq ?_
      refine c_block ?_
      refine c_seq ?_
      refine c_region ?_
      refine seqq (o_y (y_move rfl) rfl ?_)
      refine seqq (o_y (y_assign rfl) rfl ?_)
      refine c_nil ?_
      refine c_region ?_
      refine seqq (o_y (y_move rfl) rfl ?_)
      refine seqq (o_y (y_move rfl) rfl ?_)
      refine seqq (o_y (y_binZ (v := .int .i64 4) rfl rfl (fun _ => by rfl)) rfl ?_)
      refine seqq (o_y (y_indexAddrA Tryz.runUnderlying185 Tryz.sizeOf22 rfl rfl (by decide)) rfl ?_)
      refine seqq (o_y (l1 Tryz.isAgg22 rfl (by rfl)) rfl ?_)
      refine seqq (o_y (y_move rfl) rfl ?_)
      refine seqq (o_y (y_binZ (v := .int .i64 2) rfl rfl (fun _ => by rfl)) rfl ?_)
      refine seqq (o_y (y_binZ (v := .int .i64 16) rfl rfl (fun _ => by rfl)) rfl ?_)
      refine seqq (o_y (y_binZ (v := .int .i64 8) rfl rfl (fun _ => by rfl)) rfl ?_)
      refine seqq (o_y (y_shrB (s := 8) UK.u32 rfl rfl) rfl ?_)
      refine seqq (o_y (y_convB UK.u8 Tryz.runUnderlying22 Tryz.runUnderlying5 rfl) rfl ?_)
      refine seqq (o_y (y_indexAddrA Tryz.runUnderlying26 Tryz.sizeOf5 rfl rfl (by decide)) rfl ?_)
      refine seqq (o_storeE Tryz.sizeOf5 rfl rfl 18 (by rfl) (by decide) (by rfl) ?_)
      refine c_nil ?_
      refine c_region ?_
      refine seqq (o_y (y_binZ (v := .int .i64 19) rfl rfl (fun _ => by rfl)) rfl ?_)
      refine seqq (o_y (y_move rfl) rfl ?_)
      refine c_nil ?_
      refine c_round ?_
      refine c_seq ?_
      refine c_region ?_
      refine seqq (o_y (y_binZ (v := .bool true) rfl rfl (fun _ => by rfl)) rfl ?_)
      refine c_nil ?_
      refine c_seq ?_
      refine c_condT rfl ?_
      refine c_skip ?_
      refine c_seq ?_
      refine c_block ?_
      refine c_seq ?_
      refine c_region ?_
      refine seqq (o_y (y_move rfl) rfl ?_)
      refine seqq (o_y (y_assign rfl) rfl ?_)
      refine c_nil ?_
      refine c_region ?_
      refine seqq (o_y (y_move rfl) rfl ?_)
      refine seqq (o_y (y_move rfl) rfl ?_)
      refine seqq (o_y (y_binZ (v := .int .i64 4) rfl rfl (fun _ => by rfl)) rfl ?_)
      refine seqq (o_y (y_indexAddrA Tryz.runUnderlying185 Tryz.sizeOf22 rfl rfl (by decide)) rfl ?_)
      refine seqq (o_y (l1 Tryz.isAgg22 rfl (by rfl)) rfl ?_)
      refine seqq (o_y (y_move rfl) rfl ?_)
      refine seqq (o_y (y_binZ (v := .int .i64 3) rfl rfl (fun _ => by rfl)) rfl ?_)
      refine seqq (o_y (y_binZ (v := .int .i64 24) rfl rfl (fun _ => by rfl)) rfl ?_)
      refine seqq (o_y (y_binZ (v := .int .i64 0) rfl rfl (fun _ => by rfl)) rfl ?_)
      refine seqq (o_y (y_shrB (s := 0) UK.u32 rfl rfl) rfl ?_)
      refine seqq (o_y (y_convB UK.u8 Tryz.runUnderlying22 Tryz.runUnderlying5 rfl) rfl ?_)
      refine seqq (o_y (y_indexAddrA Tryz.runUnderlying26 Tryz.sizeOf5 rfl rfl (by decide)) rfl ?_)
      refine seqq (o_storeE Tryz.sizeOf5 rfl rfl 19 (by rfl) (by decide) (by rfl) ?_)
      refine c_nil ?_
      refine c_region ?_
      refine seqq (o_y (y_binZ (v := .int .i64 20) rfl rfl (fun _ => by rfl)) rfl ?_)
      refine seqq (o_y (y_move rfl) rfl ?_)
      refine c_nil ?_
      refine c_round ?_
      refine c_seq ?_
      refine c_region ?_
      refine seqq (o_y (y_binZ (v := .bool true) rfl rfl (fun _ => by rfl)) rfl ?_)
      refine c_nil ?_
      refine c_seq ?_
      refine c_condT rfl ?_
      refine c_skip ?_
      refine c_seq ?_
      refine c_block ?_
      refine c_seq ?_
      refine c_region ?_
      refine seqq (o_y (y_move rfl) rfl ?_)
      refine seqq (o_y (y_assign rfl) rfl ?_)
      refine c_nil ?_
      refine c_region ?_
      refine seqq (o_y (y_move rfl) rfl ?_)
      refine seqq (o_y (y_move rfl) rfl ?_)
      refine seqq (o_y (y_binZ (v := .int .i64 5) rfl rfl (fun _ => by rfl)) rfl ?_)
      refine seqq (o_y (y_indexAddrA Tryz.runUnderlying185 Tryz.sizeOf22 rfl rfl (by decide)) rfl ?_)
      refine seqq (o_y (l1 Tryz.isAgg22 rfl (by rfl)) rfl ?_)
      refine seqq (o_y (y_move rfl) rfl ?_)
      refine seqq (o_y (y_binZ (v := .int .i64 0) rfl rfl (fun _ => by rfl)) rfl ?_)
      refine seqq (o_y (y_binZ (v := .int .i64 0) rfl rfl (fun _ => by rfl)) rfl ?_)
      refine seqq (o_y (y_binZ (v := .int .i64 24) rfl rfl (fun _ => by rfl)) rfl ?_)
      refine seqq (o_y (y_shrB (s := 24) UK.u32 rfl rfl) rfl ?_)
      refine seqq (o_y (y_convB UK.u8 Tryz.runUnderlying22 Tryz.runUnderlying5 rfl) rfl ?_)
      refine seqq (o_y (y_indexAddrA Tryz.runUnderlying26 Tryz.sizeOf5 rfl rfl (by decide)) rfl ?_)
      refine seqq (o_storeE Tryz.sizeOf5 rfl rfl 20 (by rfl) (by decide) (by rfl) ?_)
      refine c_nil ?_
      refine c_region ?_
      refine seqq (o_y (y_binZ (v := .int .i64 21) rfl rfl (fun _ => by rfl)) rfl ?_)
      refine seqq (o_y (y_move rfl) rfl ?_)
      refine c_nil ?_
      refine c_round ?_
      refine c_seq ?_
      refine c_region ?_
      refine seqq (o_y (y_binZ (v := .bool true) rfl rfl (fun _ => by rfl)) rfl ?_)
      refine c_nil ?_
      refine c_seq ?_
      refine c_condT rfl ?_
      refine c_skip ?_
      refine c_seq ?_
      refine c_block ?_
      refine c_seq ?_
      refine c_region ?_
      refine seqq (o_y (y_move rfl) rfl ?_)
      refine seqq (o_y (y_assign rfl) rfl ?_)
      refine c_nil ?_
      refine c_region ?_
      refine seqq (o_y (y_move rfl) rfl ?_)
      refine seqq (o_y (y_move rfl) rfl ?_)
      refine seqq (o_y (y_binZ (v := .int .i64 5) rfl rfl (fun _ => by rfl)) rfl ?_)
      refine seqq (o_y (y_indexAddrA Tryz.runUnderlying185 Tryz.sizeOf22 rfl rfl (by decide)) rfl ?_)
      refine seqq (o_y (l1 Tryz.isAgg22 rfl (by rfl)) rfl ?_)
      refine seqq (o_y (y_move rfl) rfl ?_)
      refine seqq (o_y (y_binZ (v := .int .i64 1) rfl rfl (fun _ => by rfl)) rfl ?_)
      refine seqq (o_y (y_binZ (v := .int .i64 8) rfl rfl (fun _ => by rfl)) rfl ?_)
      refine seqq (o_y (y_binZ (v := .int .i64 16) rfl rfl (fun _ => by rfl)) rfl ?_)
      refine seqq (o_y (y_shrB (s := 16) UK.u32 rfl rfl) rfl ?_)
      refine seqq (o_y (y_convB UK.u8 Tryz.runUnderlying22 Tryz.runUnderlying5 rfl) rfl ?_)
      refine seqq (o_y (y_indexAddrA Tryz.runUnderlying26 Tryz.sizeOf5 rfl rfl (by decide)) rfl ?_)
      refine seqq (o_storeE Tryz.sizeOf5 rfl rfl 21 (by rfl) (by decide) (by rfl) ?_)
      refine c_nil ?_
      refine c_region ?_
      refine seqq (o_y (y_binZ (v := .int .i64 22) rfl rfl (fun _ => by rfl)) rfl ?_)
      refine seqq (o_y (y_move rfl) rfl ?_)
      refine c_nil ?_
      refine c_round ?_
      refine c_seq ?_
      refine c_region ?_
      refine seqq (o_y (y_binZ (v := .bool true) rfl rfl (fun _ => by rfl)) rfl ?_)
      refine c_nil ?_
      refine c_seq ?_
      refine c_condT rfl ?_
      refine c_skip ?_
      refine c_seq ?_
      refine c_block ?_
      refine c_seq ?_
      refine c_region ?_
      refine seqq (o_y (y_move rfl) rfl ?_)
      refine seqq (o_y (y_assign rfl) rfl ?_)
      refine c_nil ?_
      refine c_region ?_
      refine seqq (o_y (y_move rfl) rfl ?_)
      refine seqq (o_y (y_move rfl) rfl ?_)
      refine seqq (o_y (y_binZ (v := .int .i64 5) rfl rfl (fun _ => by rfl)) rfl ?_)
      refine seqq (o_y (y_indexAddrA Tryz.runUnderlying185 Tryz.sizeOf22 rfl rfl (by decide)) rfl ?_)
      refine seqq (o_y (l1 Tryz.isAgg22 rfl (by rfl)) rfl ?_)
      refine seqq (o_y (y_move rfl) rfl ?_)
      refine seqq (o_y (y_binZ (v := .int .i64 2) rfl rfl (fun _ => by rfl)) rfl ?_)
      refine seqq (o_y (y_binZ (v := .int .i64 16) rfl rfl (fun _ => by rfl)) rfl ?_)
      refine seqq (o_y (y_binZ (v := .int .i64 8) rfl rfl (fun _ => by rfl)) rfl ?_)
      refine seqq (o_y (y_shrB (s := 8) UK.u32 rfl rfl) rfl ?_)
      refine seqq (o_y (y_convB UK.u8 Tryz.runUnderlying22 Tryz.runUnderlying5 rfl) rfl ?_)
      refine seqq (o_y (y_indexAddrA Tryz.runUnderlying26 Tryz.sizeOf5 rfl rfl (by decide)) rfl ?_)
      refine seqq (o_storeE Tryz.sizeOf5 rfl rfl 22 (by rfl) (by decide) (by rfl) ?_)
      refine c_nil ?_
      refine c_region ?_
      refine seqq (o_y (y_binZ (v := .int .i64 23) rfl rfl (fun _ => by rfl)) rfl ?_)
      refine seqq (o_y (y_move rfl) rfl ?_)
      refine c_nil ?_
      refine c_round ?_
      refine c_seq ?_
      refine c_region ?_
      refine seqq (o_y (y_binZ (v := .bool true) rfl rfl (fun _ => by rfl)) rfl ?_)
      refine c_nil ?_
      refine c_seq ?_
      refine c_condT rfl ?_
      refine c_skip ?_
      refine c_seq ?_
      refine c_block ?_
      refine c_seq ?_
      refine c_region ?_
      refine seqq (o_y (y_move rfl) rfl ?_)
      refine seqq (o_y (y_assign rfl) rfl ?_)
      refine c_nil ?_
      refine c_region ?_
      refine seqq (o_y (y_move rfl) rfl ?_)
      refine seqq (o_y (y_move rfl) rfl ?_)
      refine seqq (o_y (y_binZ (v := .int .i64 5) rfl rfl (fun _ => by rfl)) rfl ?_)
      refine seqq (o_y (y_indexAddrA Tryz.runUnderlying185 Tryz.sizeOf22 rfl rfl (by decide)) rfl ?_)
      refine seqq (o_y (l1 Tryz.isAgg22 rfl (by rfl)) rfl ?_)
      refine seqq (o_y (y_move rfl) rfl ?_)
      refine seqq (o_y (y_binZ (v := .int .i64 3) rfl rfl (fun _ => by rfl)) rfl ?_)
      refine seqq (o_y (y_binZ (v := .int .i64 24) rfl rfl (fun _ => by rfl)) rfl ?_)
      refine seqq (o_y (y_binZ (v := .int .i64 0) rfl rfl (fun _ => by rfl)) rfl ?_)
      refine seqq (o_y (y_shrB (s := 0) UK.u32 rfl rfl) rfl ?_)
      refine seqq (o_y (y_convB UK.u8 Tryz.runUnderlying22 Tryz.runUnderlying5 rfl) rfl ?_)
      refine seqq (o_y (y_indexAddrA Tryz.runUnderlying26 Tryz.sizeOf5 rfl rfl (by decide)) rfl ?_)
      refine seqq (o_storeE Tryz.sizeOf5 rfl rfl 23 (by rfl) (by decide) (by rfl) ?_)
      refine c_nil ?_
      refine c_region ?_
      refine seqq (o_y (y_binZ (v := .int .i64 24) rfl rfl (fun _ => by rfl)) rfl ?_)
      refine seqq (o_y (y_move rfl) rfl ?_)
      refine c_nil ?_
      refine c_round ?_
      refine c_seq ?_
      refine c_region ?_
      refine seqq (o_y (y_binZ (v := .bool true) rfl rfl (fun _ => by rfl)) rfl ?_)
      refine c_nil ?_
      refine c_seq ?_
      refine c_condT rfl ?_
      refine c_skip ?_
      refine c_seq ?_
      refine c_block ?_
      refine c_seq ?_
      refine c_region ?_
      refine seqq (o_y (y_move rfl) rfl ?_)
      refine seqq (o_y (y_assign rfl) rfl ?_)
      refine c_nil ?_
      refine c_region ?_
      refine seqq (o_y (y_move rfl) rfl ?_)
      refine seqq (o_y (y_move rfl) rfl ?_)
      refine seqq (o_y (y_binZ (v := .int .i64 6) rfl rfl (fun _ => by rfl)) rfl ?_)
      refine seqq (o_y (y_indexAddrA Tryz.runUnderlying185 Tryz.sizeOf22 rfl rfl (by decide)) rfl ?_)
      refine seqq (o_y (l1 Tryz.isAgg22 rfl (by rfl)) rfl ?_)
      refine seqq (o_y (y_move rfl) rfl ?_)
      refine seqq (o_y (y_binZ (v := .int .i64 0) rfl rfl (fun _ => by rfl)) rfl ?_)
      refine seqq (o_y (y_binZ (v := .int .i64 0) rfl rfl (fun _ => by rfl)) rfl ?_)
      refine seqq (o_y (y_binZ (v := .int .i64 24) rfl rfl (fun _ => by rfl)) rfl ?_)
      refine seqq (o_y (y_shrB (s := 24) UK.u32 rfl rfl) rfl ?_)
      refine seqq (o_y (y_convB UK.u8 Tryz.runUnderlying22 Tryz.runUnderlying5 rfl) rfl ?_)
      refine seqq (o_y (y_indexAddrA Tryz.runUnderlying26 Tryz.sizeOf5 rfl rfl (by decide)) rfl ?_)
      refine seqq (o_storeE Tryz.sizeOf5 rfl rfl 24 (by rfl) (by decide) (by rfl) ?_)
      refine c_nil ?_
      refine c_region ?_
      refine seqq (o_y (y_binZ (v := .int .i64 25) rfl rfl (fun _ => by rfl)) rfl ?_)
      refine seqq (o_y (y_move rfl) rfl ?_)
      refine c_nil ?_
      refine c_round ?_
      refine c_seq ?_
      refine c_region ?_
      refine seqq (o_y (y_binZ (v := .bool true) rfl rfl (fun _ => by rfl)) rfl ?_)
      refine c_nil ?_
      refine c_seq ?_
      refine c_condT rfl ?_
      refine c_skip ?_
      refine c_seq ?_
      refine c_block ?_
      refine c_seq ?_
      refine c_region ?_
      refine seqq (o_y (y_move rfl) rfl ?_)
      refine seqq (o_y (y_assign rfl) rfl ?_)
      refine c_nil ?_
      refine c_region ?_
      refine seqq (o_y (y_move rfl) rfl ?_)
      refine seqq (o_y (y_move rfl) rfl ?_)
      refine seqq (o_y (y_binZ (v := .int .i64 6) rfl rfl (fun _ => by rfl)) rfl ?_)
      refine seqq (o_y (y_indexAddrA Tryz.runUnderlying185 Tryz.sizeOf22 rfl rfl (by decide)) rfl ?_)
      refine seqq (o_y (l1 Tryz.isAgg22 rfl (by rfl)) rfl ?_)
      refine seqq (o_y (y_move rfl) rfl ?_)
      refine seqq (o_y (y_binZ (v := .int .i64 1) rfl rfl (fun _ => by rfl)) rfl ?_)
      refine seqq (o_y (y_binZ (v := .int .i64 8) rfl rfl (fun _ => by rfl)) rfl ?_)
      refine seqq (o_y (y_binZ (v := .int .i64 16) rfl rfl (fun _ => by rfl)) rfl ?_)
      refine seqq (o_y (y_shrB (s := 16) UK.u32 rfl rfl) rfl ?_)
      refine seqq (o_y (y_convB UK.u8 Tryz.runUnderlying22 Tryz.runUnderlying5 rfl) rfl ?_)
      refine seqq (o_y (y_indexAddrA Tryz.runUnderlying26 Tryz.sizeOf5 rfl rfl (by decide)) rfl ?_)
      refine seqq (o_storeE Tryz.sizeOf5 rfl rfl 25 (by rfl) (by decide) (by rfl) ?_)
      refine c_nil ?_
      refine c_region ?_
      refine seqq (o_y (y_binZ (v := .int .i64 26) rfl rfl (fun _ => by rfl)) rfl ?_)
      refine seqq (o_y (y_move rfl) rfl ?_)
      refine c_nil ?_
      refine c_round ?_
      refine c_seq ?_
      refine c_region ?_
      refine seqq (o_y (y_binZ (v := .bool true) rfl rfl (fun _ => by rfl)) rfl ?_)
      refine c_nil ?_
      refine c_seq ?_
      refine c_condT rfl ?_
      refine c_skip ?_
      refine c_seq ?_
      refine c_block ?_
      refine c_seq ?_
      refine c_region ?_
      refine seqq (o_y (y_move rfl) rfl ?_)
      refine seqq (o_y (y_assign rfl) rfl ?_)
      refine c_nil ?_
      refine c_region ?_
      refine seqq (o_y (y_move rfl) rfl ?_)
      refine seqq (o_y (y_move rfl) rfl ?_)
      refine seqq (o_y (y_binZ (v := .int .i64 6) rfl rfl (fun _ => by rfl)) rfl ?_)
      refine seqq (o_y (y_indexAddrA Tryz.runUnderlying185 Tryz.sizeOf22 rfl rfl (by decide)) rfl ?_)
      refine seqq (o_y (l1 Tryz.isAgg22 rfl (by rfl)) rfl ?_)
      refine seqq (o_y (y_move rfl) rfl ?_)
      refine seqq (o_y (y_binZ (v := .int .i64 2) rfl rfl (fun _ => by rfl)) rfl ?_)
      refine seqq (o_y (y_binZ (v := .int .i64 16) rfl rfl (fun _ => by rfl)) rfl ?_)
      refine seqq (o_y (y_binZ (v := .int .i64 8) rfl rfl (fun _ => by rfl)) rfl ?_)
      refine seqq (o_y (y_shrB (s := 8) UK.u32 rfl rfl) rfl ?_)
      refine seqq (o_y (y_convB UK.u8 Tryz.runUnderlying22 Tryz.runUnderlying5 rfl) rfl ?_)
      refine seqq (o_y (y_indexAddrA Tryz.runUnderlying26 Tryz.sizeOf5 rfl rfl (by decide)) rfl ?_)
      refine seqq (o_storeE Tryz.sizeOf5 rfl rfl 26 (by rfl) (by decide) (by rfl) ?_)
      refine c_nil ?_
      refine c_region ?_
      refine seqq (o_y (y_binZ (v := .int .i64 27) rfl rfl (fun _ => by rfl)) rfl ?_)
      refine seqq (o_y (y_move rfl) rfl ?_)
      refine c_nil ?_
      refine c_round ?_
      refine c_seq ?_
      refine c_region ?_
      refine seqq (o_y (y_binZ (v := .bool true) rfl rfl (fun _ => by rfl)) rfl ?_)
      refine c_nil ?_
      refine c_seq ?_
      refine c_condT rfl ?_
      refine c_skip ?_
      refine c_seq ?_
      refine c_block ?_
      refine c_seq ?_
      refine c_region ?_
      refine seqq (o_y (y_move rfl) rfl ?_)
      refine seqq (o_y (y_assign rfl) rfl ?_)
      refine c_nil ?_
      refine c_region ?_
      refine seqq (o_y (y_move rfl) rfl ?_)
      refine seqq (o_y (y_move rfl) rfl ?_)
      refine seqq (o_y (y_binZ (v := .int .i64 6) rfl rfl (fun _ => by rfl)) rfl ?_)
      refine seqq (o_y (y_indexAddrA Tryz.runUnderlying185 Tryz.sizeOf22 rfl rfl (by decide)) rfl ?_)
      refine seqq (o_y (l1 Tryz.isAgg22 rfl (by rfl)) rfl ?_)
      refine seqq (o_y (y_move rfl) rfl ?_)
      refine seqq (o_y (y_binZ (v := .int .i64 3) rfl rfl (fun _ => by rfl)) rfl ?_)
      refine seqq (o_y (y_binZ (v := .int .i64 24) rfl rfl (fun _ => by rfl)) rfl ?_)
      refine seqq (o_y (y_binZ (v := .int .i64 0) rfl rfl (fun _ => by rfl)) rfl ?_)
      refine seqq (o_y (y_shrB (s := 0) UK.u32 rfl rfl) rfl ?_)
      refine seqq (o_y (y_convB UK.u8 Tryz.runUnderlying22 Tryz.runUnderlying5 rfl) rfl ?_)
      refine seqq (o_y (y_indexAddrA Tryz.runUnderlying26 Tryz.sizeOf5 rfl rfl (by decide)) rfl ?_)
      refine seqq (o_storeE Tryz.sizeOf5 rfl rfl 27 (by rfl) (by decide) (by rfl) ?_)
      refine c_nil ?_
      refine c_region ?_
      refine seqq (o_y (y_binZ (v := .int .i64 28) rfl rfl (fun _ => by rfl)) rfl ?_)
      refine seqq (o_y (y_move rfl) rfl ?_)
      refine c_nil ?_
      refine c_round ?_
      refine c_seq ?_
      refine c_region ?_
      refine seqq (o_y (y_binZ (v := .bool true) rfl rfl (fun _ => by rfl)) rfl ?_)
      refine c_nil ?_
      refine c_seq ?_
      refine c_condT rfl ?_
      refine c_skip ?_
      refine c_seq ?_
      refine c_block ?_
      refine c_seq ?_
      refine c_region ?_
      refine seqq (o_y (y_move rfl) rfl ?_)
      refine seqq (o_y (y_assign rfl) rfl ?_)
      refine c_nil ?_
      refine c_region ?_
      refine seqq (o_y (y_move rfl) rfl ?_)
      refine seqq (o_y (y_move rfl) rfl ?_)
      refine seqq (o_y (y_binZ (v := .int .i64 7) rfl rfl (fun _ => by rfl)) rfl ?_)
      refine seqq (o_y (y_indexAddrA Tryz.runUnderlying185 Tryz.sizeOf22 rfl rfl (by decide)) rfl ?_)
      refine seqq (o_y (l1 Tryz.isAgg22 rfl (by rfl)) rfl ?_)
      refine seqq (o_y (y_move rfl) rfl ?_)
      refine seqq (o_y (y_binZ (v := .int .i64 0) rfl rfl (fun _ => by rfl)) rfl ?_)
      refine seqq (o_y (y_binZ (v := .int .i64 0) rfl rfl (fun _ => by rfl)) rfl ?_)
      refine seqq (o_y (y_binZ (v := .int .i64 24) rfl rfl (fun _ => by rfl)) rfl ?_)
      refine seqq (o_y (y_shrB (s := 24) UK.u32 rfl rfl) rfl ?_)
      refine seqq (o_y (y_convB UK.u8 Tryz.runUnderlying22 Tryz.runUnderlying5 rfl) rfl ?_)
      refine seqq (o_y (y_indexAddrA Tryz.runUnderlying26 Tryz.sizeOf5 rfl rfl (by decide)) rfl ?_)
      refine seqq (o_storeE Tryz.sizeOf5 rfl rfl 28 (by rfl) (by decide) (by rfl) ?_)
      refine c_nil ?_
      refine c_region ?_
      refine seqq (o_y (y_binZ (v := .int .i64 29) rfl rfl (fun _ => by rfl)) rfl ?_)
      refine seqq (o_y (y_move rfl) rfl ?_)
      refine c_nil ?_
      refine c_round ?_
      refine c_seq ?_
      refine c_region ?_
      refine seqq (o_y (y_binZ (v := .bool true) rfl rfl (fun _ => by rfl)) rfl ?_)
      refine c_nil ?_
      refine c_seq ?_
      refine c_condT rfl ?_
      refine c_skip ?_
      refine c_seq ?_
      refine c_block ?_
      refine c_seq ?_
      refine c_region ?_
      refine seqq (o_y (y_move rfl) rfl ?_)
      refine seqq (o_y (y_assign rfl) rfl ?_)
      refine c_nil ?_
      refine c_region ?_
      refine seqq (o_y (y_move rfl) rfl ?_)
      refine seqq (o_y (y_move rfl) rfl ?_)
      refine seqq (o_y (y_binZ (v := .int .i64 7) rfl rfl (fun _ => by rfl)) rfl ?_)
      refine seqq (o_y (y_indexAddrA Tryz.runUnderlying185 Tryz.sizeOf22 rfl rfl (by decide)) rfl ?_)
      refine seqq (o_y (l1 Tryz.isAgg22 rfl (by rfl)) rfl ?_)
      refine seqq (o_y (y_move rfl) rfl ?_)
      refine seqq (o_y (y_binZ (v := .int .i64 1) rfl rfl (fun _ => by rfl)) rfl ?_)
      refine seqq (o_y (y_binZ (v := .int .i64 8) rfl rfl (fun _ => by rfl)) rfl ?_)
      refine seqq (o_y (y_binZ (v := .int .i64 16) rfl rfl (fun _ => by rfl)) rfl ?_)
      refine seqq (o_y (y_shrB (s := 16) UK.u32 rfl rfl) rfl ?_)
      refine seqq (o_y (y_convB UK.u8 Tryz.runUnderlying22 Tryz.runUnderlying5 rfl) rfl ?_)
      refine seqq (o_y (y_indexAddrA Tryz.runUnderlying26 Tryz.sizeOf5 rfl rfl (by decide)) rfl ?_)
      refine seqq (o_storeE Tryz.sizeOf5 rfl rfl 29 (by rfl) (by decide) (by rfl) ?_)
      refine c_nil ?_
      refine c_region ?_
      refine seqq (o_y (y_binZ (v := .int .i64 30) rfl rfl (fun _ => by rfl)) rfl ?_)
      refine seqq (o_y (y_move rfl) rfl ?_)
      refine c_nil ?_
      refine c_round ?_
      refine c_seq ?_
      refine c_region ?_
      refine seqq (o_y (y_binZ (v := .bool true) rfl rfl (fun _ => by rfl)) rfl ?_)
      refine c_nil ?_
      refine c_seq ?_
      refine c_condT rfl ?_
      refine c_skip ?_
      refine c_seq ?_
      refine c_block ?_
      refine c_seq ?_
      refine c_region ?_
      refine seqq (o_y (y_move rfl) rfl ?_)
      refine seqq (o_y (y_assign rfl) rfl ?_)
      refine c_nil ?_
      refine c_region ?_
      refine seqq (o_y (y_move rfl) rfl ?_)
      refine seqq (o_y (y_move rfl) rfl ?_)
      refine seqq (o_y (y_binZ (v := .int .i64 7) rfl rfl (fun _ => by rfl)) rfl ?_)
      refine seqq (o_y (y_indexAddrA Tryz.runUnderlying185 Tryz.sizeOf22 rfl rfl (by decide)) rfl ?_)
      refine seqq (o_y (l1 Tryz.isAgg22 rfl (by rfl)) rfl ?_)
      refine seqq (o_y (y_move rfl) rfl ?_)
      refine seqq (o_y (y_binZ (v := .int .i64 2) rfl rfl (fun _ => by rfl)) rfl ?_)
      refine seqq (o_y (y_binZ (v := .int .i64 16) rfl rfl (fun _ => by rfl)) rfl ?_)
      refine seqq (o_y (y_binZ (v := .int .i64 8) rfl rfl (fun _ => by rfl)) rfl ?_)
      refine seqq (o_y (y_shrB (s := 8) UK.u32 rfl rfl) rfl ?_)
      refine seqq (o_y (y_convB UK.u8 Tryz.runUnderlying22 Tryz.runUnderlying5 rfl) rfl ?_)
      refine seqq (o_y (y_indexAddrA Tryz.runUnderlying26 Tryz.sizeOf5 rfl rfl (by decide)) rfl ?_)
      refine seqq (o_storeE Tryz.sizeOf5 rfl rfl 30 (by rfl) (by decide) (by rfl) ?_)
      refine c_nil ?_
      refine c_region ?_
      refine seqq (o_y (y_binZ (v := .int .i64 31) rfl rfl (fun _ => by rfl)) rfl ?_)
      refine seqq (o_y (y_move rfl) rfl ?_)
      refine c_nil ?_
      refine c_round ?_
      refine c_seq ?_
      refine c_region ?_
      refine seqq (o_y (y_binZ (v := .bool true) rfl rfl (fun _ => by rfl)) rfl ?_)
      refine c_nil ?_
      refine c_seq ?_
      refine c_condT rfl ?_
      refine c_skip ?_
      refine c_seq ?_
      refine c_block ?_
      refine c_seq ?_
      refine c_region ?_
      refine seqq (o_y (y_move rfl) rfl ?_)
      refine seqq (o_y (y_assign rfl) rfl ?_)
      refine c_nil ?_
      refine c_region ?_
      refine seqq (o_y (y_move rfl) rfl ?_)
      refine seqq (o_y (y_move rfl) rfl ?_)
      refine seqq (o_y (y_binZ (v := .int .i64 7) rfl rfl (fun _ => by rfl)) rfl ?_)
      refine seqq (o_y (y_indexAddrA Tryz.runUnderlying185 Tryz.sizeOf22 rfl rfl (by decide)) rfl ?_)
      refine seqq (o_y (l1 Tryz.isAgg22 rfl (by rfl)) rfl ?_)
      refine seqq (o_y (y_move rfl) rfl ?_)
      refine seqq (o_y (y_binZ (v := .int .i64 3) rfl rfl (fun _ => by rfl)) rfl ?_)
      refine seqq (o_y (y_binZ (v := .int .i64 24) rfl rfl (fun _ => by rfl)) rfl ?_)
      refine seqq (o_y (y_binZ (v := .int .i64 0) rfl rfl (fun _ => by rfl)) rfl ?_)
      refine seqq (o_y (y_shrB (s := 0) UK.u32 rfl rfl) rfl ?_)
      refine seqq (o_y (y_convB UK.u8 Tryz.runUnderlying22 Tryz.runUnderlying5 rfl) rfl ?_)
      refine seqq (o_y (y_indexAddrA Tryz.runUnderlying26 Tryz.sizeOf5 rfl rfl (by decide)) rfl ?_)
      refine seqq (o_storeE Tryz.sizeOf5 rfl rfl 31 (by rfl) (by decide) (by rfl) ?_)
      refine c_nil ?_
      refine c_region ?_
      refine seqq (o_y (y_binZ (v := .int .i64 32) rfl rfl (fun _ => by rfl)) rfl ?_)
      refine seqq (o_y (y_move rfl) rfl ?_)
      refine c_nil ?_
      refine c_round ?_
      refine c_seq ?_
      refine c_region ?_
      refine seqq (o_y (y_binZ (v := .bool false) rfl rfl (fun _ => by rfl)) rfl ?_)
      refine c_nil ?_
      refine c_seq ?_
      refine c_condF rfl ?_
      refine c_exit ?_
      refine c_seq ?_
      refine c_region ?_
      refine seqq (o_y (lN Tryz.isAgg26 Tryz.sizeOf26 rfl (by rfl)) rfl ?_)
      refine j_re 56 rfl (show _ = vagg [leaf .u8 32 (sha bs) (sha_len bs)] from congrArg vagg (leaf_congr (outs_sha bs))) ?_
      refine seqq (stN Tryz.sizeOf26 rfl rfl (by rfl) rfl (by rfl) ?_)
      refine c_nil ?_
      refine c_ret ?_
      refine m_ret ?_
      refine c_mark (by rfl) ?_
      refine lm_of ?_
      refine c_done1 Tryz.results96 (rN Tryz.isAgg26 Tryz.sizeOf26 rfl (by rfl)) (fun w hS => ?_)
      exact ⟨rfl, hS.none⟩

/-- a hash -/
abbrev H32 := { l : List (BitVec 8) // l.length = 32 }
def hP (h : H32) : Part := leaf .u8 32 h.1 h.2
def vH (h : H32) : Value := vagg [hP h]
def shaH (bs : List (BitVec 8)) : H32 := ⟨sha bs, sha_len bs⟩
def dbl (bs : List (BitVec 8)) : H32 := shaH (shaH bs).1
theorem dig_Sum {w : World} {v : Value} {bs : List (BitVec 8)} (h : SlIn w v (By bs)) (hbs : bs.length ≤ 1073741824) : Calls Tryz.prog 96 [v].toArray w (Ret fun u w' => u = vH (shaH bs) ∧ Ext w w') := by
  obtain ⟨Rd, a, c, rfl, h1, h2⟩ := slIn_rd h
  rw [by_len]
  rw [by_len] at h2
  exact dig_Sum0 bs hbs a c Rd h2 w h1

theorem dig_Double0 (bs : List (BitVec 8)) (hbs : bs.length ≤ 1073741824) (v : Value) (Rd : List Seg) (hv : ∀ w, Pts Rd w → SlIn w v (By bs)) (w : World) (hw : Pts Rd w) :
    Calls Tryz.prog 67 [v].toArray w (Ret fun u w' => u = vH (dbl bs) ∧ Ext w w') := by
  refine beginR Tryz.func67 rfl Tryz.ntmps67 rfl hw ?_
  refine c_seq ?_
  refine c_region ?_
  refine seqq (o_alloc (ps := [zleaf .u8 8 32]) Tryz.zeroValue26 (by kernel_rfl) rfl (fun b2 => ?_))
  refine c_nil ?_
  refine c_seq ?_
  refine c_region ?_
  refine seqq (o_y (y_move rfl) rfl ?_)
  refine seqq (o_pureS Tryz.call96 rfl (fun w hw => dig_Sum (hv w (fun p hp => hw p (by rw [List.flatten_append]; exact List.mem_append.2 (.inl hp)))) hbs) rfl ?_)
  refine seqq (o_alloc (ps := [zleaf .u8 8 32]) Tryz.zeroValue26 (by kernel_rfl) rfl (fun b3 => ?_))
  refine seqq (stN Tryz.sizeOf26 rfl rfl (by rfl) rfl (by rfl) ?_)
  refine c_nil ?_
  refine c_seq ?_
  refine c_region ?_
  refine seqq (o_y (y_sliceArr Tryz.runUnderlying26 Tryz.sizeOf5 rfl) rfl ?_)
  refine seqq (o_pureS Tryz.call96 rfl (fun w hw => dig_Sum (bs := (shaH bs).1) (slIn_part (mem_pts inferInstance w hw) (by rfl)) (by rw [(shaH bs).2]; decide)) rfl ?_)
  refine seqq (stN Tryz.sizeOf26 rfl rfl (by rfl) rfl (by rfl) ?_)
  refine c_nil ?_
  refine c_ret ?_
  refine c_done1 Tryz.results67 (rN Tryz.isAgg26 Tryz.sizeOf26 rfl (by rfl)) (fun w hS => ?_)
  exact ⟨rfl, hS.none⟩

theorem dig_Double {w : World} {v : Value} {bs : List (BitVec 8)} (h : SlIn w v (By bs)) (hbs : bs.length ≤ 1073741824) : Calls Tryz.prog 67 [v].toArray w (Ret fun u w' => u = vH (dbl bs) ∧ Ext w w') := by
  obtain ⟨Rd, a, c, rfl, h1, h2⟩ := slIn_rd h
  exact dig_Double0 bs hbs _ Rd h2 w h1
