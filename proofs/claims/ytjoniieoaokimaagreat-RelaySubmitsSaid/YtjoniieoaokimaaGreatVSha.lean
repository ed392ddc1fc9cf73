/- Walks and laws of this claim, part Sha. -/
import Derived.Test.YtjoniieoaokimaaGreatVDig
set_option linter.unusedVariables false
set_option linter.unusedSimpArgs false
set_option linter.unusedSectionVars false
set_option autoImplicit true
set_option relaxedAutoImplicit true
set_option maxRecDepth 100000
set_option maxHeartbeats 1000000
namespace Go.Proofs
open V
/-! ### the sum of bytes, as the code has it -/
def rotR (x : BitVec 32) (n : Nat) : BitVec 32 := (x <<< (32 - n)) ||| (x >>> n)
def shaK : List (BitVec 32) := [1116352408#32, 1899447441#32, 3049323471#32, 3921009573#32, 961987163#32, 1508970993#32, 2453635748#32, 2870763221#32, 3624381080#32, 310598401#32, 607225278#32, 1426881987#32, 1925078388#32, 2162078206#32, 2614888103#32, 3248222580#32, 3835390401#32, 4022224774#32, 264347078#32, 604807628#32, 770255983#32, 1249150122#32, 1555081692#32, 1996064986#32, 2554220882#32, 2821834349#32, 2952996808#32, 3210313671#32, 3336571891#32, 3584528711#32, 113926993#32, 338241895#32, 666307205#32, 773529912#32, 1294757372#32, 1396182291#32, 1695183700#32, 1986661051#32, 2177026350#32, 2456956037#32, 2730485921#32, 2820302411#32, 3259730800#32, 3345764771#32, 3516065817#32, 3600352804#32, 4094571909#32, 275423344#32, 430227734#32, 506948616#32, 659060556#32, 883997877#32, 958139571#32, 1322822218#32, 1537002063#32, 1747873779#32, 1955562222#32, 2024104815#32, 2227730452#32, 2361852424#32, 2428436474#32, 2756734187#32, 3204031479#32, 3329325298#32]
structure S8 where
  (a b c d e f g h : BitVec 32)
def s8 (s : S8) : List Part := [P1 (bv .u32 s.a) rfl, P1 (bv .u32 s.b) rfl, P1 (bv .u32 s.c) rfl, P1 (bv .u32 s.d) rfl, P1 (bv .u32 s.e) rfl, P1 (bv .u32 s.f) rfl, P1 (bv .u32 s.g) rfl, P1 (bv .u32 s.h) rfl]
def acc (p : List (BitVec 8)) (x0 : BitVec 32) (i : Nat) : Nat → BitVec 32
  | 0 => x0
  | j + 1 => (acc p x0 i j <<< 8) ||| ((p.getD (4 * i + j) 0#8).setWidth 32)
def wrd (p : List (BitVec 8)) (W : List (BitVec 32)) (i : Nat) : BitVec 32 :=
  if i < 16 then acc p (W.getD i 0#32) i 4
  else W.getD (i - 16) 0#32 + (rotR (W.getD (i - 15) 0#32) 7 ^^^ rotR (W.getD (i - 15) 0#32) 18 ^^^ W.getD (i - 15) 0#32 >>> 3) + W.getD (i - 7) 0#32 + (rotR (W.getD (i - 2) 0#32) 17 ^^^ rotR (W.getD (i - 2) 0#32) 19 ^^^ W.getD (i - 2) 0#32 >>> 10)
def sched (p : List (BitVec 8)) : Nat → List (BitVec 32)
  | 0 => List.replicate 64 0#32
  | i + 1 => (sched p i).set i (wrd p (sched p i) i)
theorem sched_len (p : List (BitVec 8)) : ∀ i, (sched p i).length = 64
  | 0 => by simp [sched]
  | i + 1 => by simp [sched, sched_len p i]
def one8 (s : S8) (k w : BitVec 32) : BitVec 32 := s.h + (rotR s.e 6 ^^^ rotR s.e 11 ^^^ rotR s.e 25) + (s.e &&& s.f ^^^ ~~~s.e &&& s.g) + k + w
def two8 (s : S8) : BitVec 32 := (rotR s.a 2 ^^^ rotR s.a 13 ^^^ rotR s.a 22) + (s.a &&& s.b ^^^ s.a &&& s.c ^^^ s.b &&& s.c)
def step8 (s : S8) (k w : BitVec 32) : S8 := ⟨one8 s k w + two8 s, s.a, s.b, s.c, s.d + one8 s k w, s.e, s.f, s.g⟩
def rnds (s : S8) (W : List (BitVec 32)) : Nat → S8
  | 0 => s
  | i + 1 => step8 (rnds s W i) (shaK.getD i 0#32) (W.getD i 0#32)
def add8 (s t : S8) : S8 := ⟨s.a + t.a, s.b + t.b, s.c + t.c, s.d + t.d, s.e + t.e, s.f + t.f, s.g + t.g, s.h + t.h⟩
def blk8 (s : S8) (p : List (BitVec 8)) : S8 := add8 s (rnds s (sched p 64) 64)
theorem rot_amount : ∀ n : Fin 32, 1 ≤ n.val → (BitVec.ofInt 64 (-(n.val : Int)) &&& 31#64).toNat = 32 - n.val ∧ (32#64 - (BitVec.ofInt 64 (-(n.val : Int)) &&& 31#64)).toNat = n.val := by decide
theorem leaf_congr {k : IntKind} {m n : Nat} {l l' : List (BitVec m)} {h : l.length = n} (e : l = l') : [leaf k n l h] = [leaf k n l' (e ▸ h)] := by subst e; rfl
theorem set_self {m : Nat} (l : List (BitVec m)) (i : Nat) (h : i < l.length) : l = l.set i (l.getD i 0#m) := by
  have : l.getD i 0#m = l[i] := by simp [List.getD, List.getElem?_eq_getElem h]
  rw [this, List.set_getElem_self]

theorem bits_RotateLeft32 (x : BitVec 32) (n : Nat) (h1 : 1 ≤ n) (h2 : n < 32) : Pure Tryz.prog 140 [bv .u32 x, vI (-(n : Int))] (bv .u32 (rotR x n)) := by
  intro w
  obtain ⟨e1, e2⟩ := rot_amount ⟨n, h2⟩ h1
  dsimp only at e1 e2
  refine begin0 Tryz.func140 rfl Tryz.ntmps140 rfl ?_
  refine c_seq ?_
  refine c_region ?_
  refine seqq (o_y (y_assign (v := bv .u32 0#32) rfl) rfl ?_)
  refine c_nil ?_
  refine c_seq ?_
  refine c_region ?_
  refine seqq (o_y (y_move rfl) rfl ?_)
  refine seqq (o_y (y_convZB UK.u64 Tryz.runUnderlying3 Tryz.runUnderlying48 rfl) rfl ?_)
  refine seqq (o_y (y_andB (Y := 31#64) UK.u64 rfl rfl) rfl ?_)
  refine seqq (o_y (y_assign rfl) rfl ?_)
  refine c_nil ?_
  refine c_seq ?_
  refine c_region ?_
  refine seqq (o_y (y_move rfl) rfl ?_)
  refine seqq (o_y (y_move rfl) rfl ?_)
  refine seqq (o_y (y_shlB UK.u32 rfl rfl) rfl ?_)
  refine seqq (o_y (y_move rfl) rfl ?_)
  refine seqq (o_y (y_move rfl) rfl ?_)
  refine seqq (o_y (y_subB (X := 32#64) UK.u64 rfl rfl) rfl ?_)
  refine seqq (o_y (y_shrB UK.u32 rfl rfl) rfl ?_)
  refine seqq (o_y (y_orB UK.u32 rfl rfl) rfl ?_)
  refine seqq (o_y (y_assign rfl) rfl ?_)
  refine c_nil ?_
  refine c_ret ?_
  refine c_done1 Tryz.results140 (.tmp rfl) (fun w hS => ?_)
  exact ⟨by show bv .u32 (x <<< (BitVec.ofInt 64 (-(n : Int)) &&& 31#64).toNat ||| x >>> (32#64 - (BitVec.ofInt 64 (-(n : Int)) &&& 31#64)).toNat) = _; rw [e1, e2]; rfl, hS.none⟩

theorem dig_turn (x : BitVec 32) (n : Nat) (h1 : 1 ≤ n) (h2 : n < 32) : Pure Tryz.prog 130 [bv .u32 x, vI (n : Int)] (bv .u32 (rotR x n)) := by
  intro w
  refine begin0 Tryz.func130 rfl Tryz.ntmps130 rfl ?_
  refine c_seq ?_
  refine c_region ?_
  refine seqq (o_y (y_assign (v := bv .u32 0#32) rfl) rfl ?_)
  refine c_nil ?_
  refine c_seq ?_
  refine c_region ?_
  refine seqq (o_y (y_move rfl) rfl ?_)
  refine seqq (o_y (y_move rfl) rfl ?_)
  refine seqq (o_y (y_negI rfl (by omega)) rfl ?_)
  refine seqq (o_pure Tryz.call140 rfl (bits_RotateLeft32 _ n h1 h2) rfl ?_)
  refine seqq (o_y (y_assign rfl) rfl ?_)
  refine c_nil ?_
  refine c_ret ?_
  refine c_done1 Tryz.results130 (.tmp rfl) (fun w hS => ?_)
  exact ⟨rfl, hS.none⟩

def z64 : List Part := [P1 (bv .u32 0#32) rfl, P1 (bv .u32 0#32) rfl, P1 (bv .u32 0#32) rfl, P1 (bv .u32 0#32) rfl, P1 (bv .u32 0#32) rfl, P1 (bv .u32 0#32) rfl, P1 (bv .u32 0#32) rfl, P1 (bv .u32 0#32) rfl, P1 (bv .u32 0#32) rfl, P1 (bv .u32 0#32) rfl, P1 (bv .u32 0#32) rfl, P1 (bv .u32 0#32) rfl, P1 (bv .u32 0#32) rfl, P1 (bv .u32 0#32) rfl, P1 (bv .u32 0#32) rfl, P1 (bv .u32 0#32) rfl, P1 (bv .u32 0#32) rfl, P1 (bv .u32 0#32) rfl, P1 (bv .u32 0#32) rfl, P1 (bv .u32 0#32) rfl, P1 (bv .u32 0#32) rfl, P1 (bv .u32 0#32) rfl, P1 (bv .u32 0#32) rfl, P1 (bv .u32 0#32) rfl, P1 (bv .u32 0#32) rfl, P1 (bv .u32 0#32) rfl, P1 (bv .u32 0#32) rfl, P1 (bv .u32 0#32) rfl, P1 (bv .u32 0#32) rfl, P1 (bv .u32 0#32) rfl, P1 (bv .u32 0#32) rfl, P1 (bv .u32 0#32) rfl, P1 (bv .u32 0#32) rfl, P1 (bv .u32 0#32) rfl, P1 (bv .u32 0#32) rfl, P1 (bv .u32 0#32) rfl, P1 (bv .u32 0#32) rfl, P1 (bv .u32 0#32) rfl, P1 (bv .u32 0#32) rfl, P1 (bv .u32 0#32) rfl, P1 (bv .u32 0#32) rfl, P1 (bv .u32 0#32) rfl, P1 (bv .u32 0#32) rfl, P1 (bv .u32 0#32) rfl, P1 (bv .u32 0#32) rfl, P1 (bv .u32 0#32) rfl, P1 (bv .u32 0#32) rfl, P1 (bv .u32 0#32) rfl, P1 (bv .u32 0#32) rfl, P1 (bv .u32 0#32) rfl, P1 (bv .u32 0#32) rfl, P1 (bv .u32 0#32) rfl, P1 (bv .u32 0#32) rfl, P1 (bv .u32 0#32) rfl, P1 (bv .u32 0#32) rfl, P1 (bv .u32 0#32) rfl, P1 (bv .u32 0#32) rfl, P1 (bv .u32 0#32) rfl, P1 (bv .u32 0#32) rfl, P1 (bv .u32 0#32) rfl, P1 (bv .u32 0#32) rfl, P1 (bv .u32 0#32) rfl, P1 (bv .u32 0#32) rfl, P1 (bv .u32 0#32) rfl]

theorem dig_constants : Pure Tryz.prog 131 [] (vagg [leaf .u32 64 shaK rfl]) := by
  intro w
  refine begin0 Tryz.func131 rfl Tryz.ntmps131 rfl ?_
  refine c_seq ?_
  refine c_region ?_
  refine seqq (o_alloc (ps := [zleaf .u32 32 64]) Tryz.zeroValue197 (by kernel_rfl) rfl (fun b0 => ?_))
  refine c_nil ?_
  refine c_seq ?_
  refine c_region ?_
  refine seqq (o_y (y_buildA (zs := z64) Tryz.runUnderlying197 Tryz.sizeOf22 Tryz.zeroValue197 (by kernel_rfl) (.one (v := bv .u32 1116352408#32) rfl rfl (.one (v := bv .u32 1899447441#32) rfl rfl (.one (v := bv .u32 3049323471#32) rfl rfl (.one (v := bv .u32 3921009573#32) rfl rfl (.one (v := bv .u32 961987163#32) rfl rfl (.one (v := bv .u32 1508970993#32) rfl rfl (.one (v := bv .u32 2453635748#32) rfl rfl (.one (v := bv .u32 2870763221#32) rfl rfl (.one (v := bv .u32 3624381080#32) rfl rfl (.one (v := bv .u32 310598401#32) rfl rfl (.one (v := bv .u32 607225278#32) rfl rfl (.one (v := bv .u32 1426881987#32) rfl rfl (.one (v := bv .u32 1925078388#32) rfl rfl (.one (v := bv .u32 2162078206#32) rfl rfl (.one (v := bv .u32 2614888103#32) rfl rfl (.one (v := bv .u32 3248222580#32) rfl rfl (.one (v := bv .u32 3835390401#32) rfl rfl (.one (v := bv .u32 4022224774#32) rfl rfl (.one (v := bv .u32 264347078#32) rfl rfl (.one (v := bv .u32 604807628#32) rfl rfl (.one (v := bv .u32 770255983#32) rfl rfl (.one (v := bv .u32 1249150122#32) rfl rfl (.one (v := bv .u32 1555081692#32) rfl rfl (.one (v := bv .u32 1996064986#32) rfl rfl (.one (v := bv .u32 2554220882#32) rfl rfl (.one (v := bv .u32 2821834349#32) rfl rfl (.one (v := bv .u32 2952996808#32) rfl rfl (.one (v := bv .u32 3210313671#32) rfl rfl (.one (v := bv .u32 3336571891#32) rfl rfl (.one (v := bv .u32 3584528711#32) rfl rfl (.one (v := bv .u32 113926993#32) rfl rfl (.one (v := bv .u32 338241895#32) rfl rfl (.one (v := bv .u32 666307205#32) rfl rfl (.one (v := bv .u32 773529912#32) rfl rfl (.one (v := bv .u32 1294757372#32) rfl rfl (.one (v := bv .u32 1396182291#32) rfl rfl (.one (v := bv .u32 1695183700#32) rfl rfl (.one (v := bv .u32 1986661051#32) rfl rfl (.one (v := bv .u32 2177026350#32) rfl rfl (.one (v := bv .u32 2456956037#32) rfl rfl (.one (v := bv .u32 2730485921#32) rfl rfl (.one (v := bv .u32 2820302411#32) rfl rfl (.one (v := bv .u32 3259730800#32) rfl rfl (.one (v := bv .u32 3345764771#32) rfl rfl (.one (v := bv .u32 3516065817#32) rfl rfl (.one (v := bv .u32 3600352804#32) rfl rfl (.one (v := bv .u32 4094571909#32) rfl rfl (.one (v := bv .u32 275423344#32) rfl rfl (.one (v := bv .u32 430227734#32) rfl rfl (.one (v := bv .u32 506948616#32) rfl rfl (.one (v := bv .u32 659060556#32) rfl rfl (.one (v := bv .u32 883997877#32) rfl rfl (.one (v := bv .u32 958139571#32) rfl rfl (.one (v := bv .u32 1322822218#32) rfl rfl (.one (v := bv .u32 1537002063#32) rfl rfl (.one (v := bv .u32 1747873779#32) rfl rfl (.one (v := bv .u32 1955562222#32) rfl rfl (.one (v := bv .u32 2024104815#32) rfl rfl (.one (v := bv .u32 2227730452#32) rfl rfl (.one (v := bv .u32 2361852424#32) rfl rfl (.one (v := bv .u32 2428436474#32) rfl rfl (.one (v := bv .u32 2756734187#32) rfl rfl (.one (v := bv .u32 3204031479#32) rfl rfl (.one (v := bv .u32 3329325298#32) rfl rfl .nil)))))))))))))))))))))))))))))))))))))))))))))))))))))))))))))))) (by rfl)) rfl ?_)
  refine j_re 1 rfl (show _ = vagg [leaf .u32 64 shaK rfl] from rfl) ?_
  refine seqq (stN Tryz.sizeOf197 rfl rfl (by rfl) rfl (by rfl) ?_)
  refine c_nil ?_
  refine c_ret ?_
  refine c_done1 Tryz.results131 (rN Tryz.isAgg197 Tryz.sizeOf197 rfl (by rfl)) (fun w hS => ?_)
  exact ⟨rfl, hS.none⟩

theorem getD_set {m : Nat} (l : List (BitVec m)) (i : Nat) (v : BitVec m) (h : i < l.length) : (l.set i v).getD i 0#m = v := by simp [List.getD, h]
theorem sched_acc (p : List (BitVec 8)) (i : Nat) (h : i < 16) : (sched p i).set i (acc p ((sched p i).getD i 0#32) i 4) = sched p (i + 1) := by simp only [sched, wrd, if_pos h]
theorem sched_mix (p : List (BitVec 8)) (i : Nat) (h : ¬ i < 16) : (sched p i).set i ((sched p i).getD (i - 16) 0#32 + (rotR ((sched p i).getD (i - 15) 0#32) 7 ^^^ rotR ((sched p i).getD (i - 15) 0#32) 18 ^^^ (sched p i).getD (i - 15) 0#32 >>> 3) + (sched p i).getD (i - 7) 0#32 + (rotR ((sched p i).getD (i - 2) 0#32) 17 ^^^ rotR ((sched p i).getD (i - 2) 0#32) 19 ^^^ (sched p i).getD (i - 2) 0#32 >>> 10)) = sched p (i + 1) := by simp only [sched, wrd, if_neg h]

theorem dig_block (bs b off cap : Nat) (l : List Value) (T : TypeId) (fr : Nat × Nat) (s : S8) (p : List (BitVec 8)) (hcap : 64 ≤ cap) (hl : ∀ j, j < 64 → l[off + j]? = some (bv .u8 (p.getD j 0#8))) (w : World)
    (hbs : w.heap[bs]? = some (obj 185 (s8 s))) (hb : w.heap[b]? = some (.cells l.toArray T fr)) (hne : bs ≠ b) :
    Calls Tryz.prog 118 [.pointer (some ⟨bs, 0, none⟩), .slice (some ⟨b, off, none⟩) 64 cap].toArray w (Ret fun u w' => u = .tuple #[] ∧ St w [bs] [] [[(bs, obj 185 (s8 (blk8 s p)))]] w') := by
  refine begin_ Tryz.func118 rfl Tryz.ntmps118 rfl (st_init1 hbs hb hne) ?_
  refine c_seq ?_
  refine c_region ?_
  refine seqq (o_alloc (ps := [zleaf .u32 32 64]) Tryz.zeroValue197 (by kernel_rfl) rfl (fun b4 => ?_))
  refine c_nil ?_
  refine c_seq ?_
  refine c_seq ?_
  refine c_region ?_
  refine seqq (o_y (y_move rfl) rfl ?_)
  refine j_obj b4 (ps' := [leaf .u32 64 (sched p 0) (sched_len p 0)]) rfl (by rfl) ?_
  refine c_nil ?_
  refine c_block ?_
  refine c_while (X := Nat) [0, 1, 4] [bs] rfl (fun Ek i => (21, vI (i : Int)) :: Ek) (fun Mk i => [(b4, obj 197 [leaf .u32 64 (sched p i) (sched_len p i)])] :: Mk) (fun i => i ≤ 64) (fun i => 64 - i) 0 (by omega) ⟨rfl, rfl, rfl, rfl, trivial⟩ ?_
  intro i hi
  refine c_seq ?_
  refine c_region ?_
  refine seqq (o_y (y_lssZ rfl rfl) rfl ?_)
  refine c_nil ?_
  refine c_seq ?_
  refine c_if rfl (fun h22 => ?_) (fun h22 => ?_)
  ·
    refine c_skip ?_
    refine c_seq ?_
    refine c_block ?_
    refine c_seq ?_
    refine c_region ?_
    refine seqq (o_y (y_move rfl) rfl ?_)
    refine seqq (o_y (y_assign rfl) rfl ?_)
    refine c_nil ?_
    refine c_seq ?_
    refine c_seq ?_
    refine c_region ?_
    refine seqq (o_y (y_move rfl) rfl ?_)
    refine seqq (o_y (y_lssZ rfl rfl) rfl ?_)
    refine c_nil ?_
    refine c_if rfl (fun h25 => ?_) (fun h25 => ?_)
    ·
      refine c_seq ?_
      refine c_seq ?_
      refine c_region ?_
      refine seqq (o_y (y_move rfl) rfl ?_)
      refine seqq (o_y (y_move rfl) rfl ?_)
      refine seqq (o_y (y_mulI rfl rfl (by omega)) rfl ?_)
      refine seqq (o_y (y_move rfl) rfl ?_)
      refine seqq (o_y (y_mulI rfl rfl (by omega)) rfl ?_)
      refine seqq (o_y (y_addI rfl rfl (by omega)) rfl ?_)
      refine seqq (o_y (y_slice (lo := 4 * i) (hi := 4 * i + 4) Tryz.runUnderlying36 Tryz.sizeOf5 rfl rfl rfl (by omega) (by omega) (by omega)) rfl ?_)
      refine j_re 32 rfl (show _ = .slice (some ⟨b, off + 4 * i, none⟩) 4 (cap - 4 * i) from by rw [soff, if_neg (by omega), Nat.mul_one, Nat.add_sub_cancel_left]) ?_
      refine seqq (o_y (y_len (tys := #[]) Tryz.runUnderlying36 rfl) rfl ?_)
      refine seqq (o_y (y_move rfl) rfl ?_)
      refine j_obj b4 (ps' := [leaf .u32 64 ((sched p i).set i (acc p ((sched p i).getD i 0#32) i 0)) (by simp [sched_len])]) (leaf_congr (set_self _ i (by rw [sched_len]; omega))) (by rfl) ?_
      refine c_nil ?_
      refine c_block ?_
      refine c_while (X := Nat) [0, 1, 4, 5, 21, 32, 33] [bs] rfl (fun Ek j => (34, vI (j : Int)) :: Ek) (fun Mk j => [(b4, obj 197 [leaf .u32 64 ((sched p i).set i (acc p ((sched p i).getD i 0#32) i j)) (by simp [sched_len])])] :: Mk) (fun j => j ≤ 4) (fun j => 4 - j) 0 (by omega) ⟨rfl, rfl, rfl, rfl, rfl, rfl, rfl, rfl, trivial⟩ ?_
      intro j hj
      refine c_seq ?_
      refine c_region ?_
      refine seqq (o_y (y_lssZ rfl rfl) rfl ?_)
      refine c_nil ?_
      refine c_seq ?_
      refine c_if rfl (fun h35 => ?_) (fun h35 => ?_)
      ·
        refine c_skip ?_
        refine c_seq ?_
        refine c_block ?_
        refine c_seq ?_
        refine c_region ?_
        refine seqq (o_y (y_indexAddrS Tryz.runUnderlying36 Tryz.sizeOf5 rfl rfl (by omega)) rfl ?_)
        refine seqq (o_y (lC Tryz.isAgg5 (off + (4 * i + j)) rfl (by omega) (hl _ (by omega))) rfl ?_)
        refine seqq (o_y (y_assign rfl) rfl ?_)
        refine c_nil ?_
        refine c_region ?_
        refine seqq (o_y (y_move rfl) rfl ?_)
        refine seqq (o_y (y_move rfl) rfl ?_)
        refine seqq (o_y (y_indexAddrA Tryz.runUnderlying197 Tryz.sizeOf22 rfl rfl (by omega)) rfl ?_)
        refine seqq (o_y (lE Tryz.isAgg22 rfl (i) (by omega) (by omega)) rfl ?_)
        refine j_re 41 rfl (show _ = bv .u32 (acc p ((sched p i).getD i 0#32) i j) from by rw [getD_set _ _ _ (by rw [sched_len]; omega)]) ?_
        refine seqq (o_y (y_shlB (s := 8) UK.u32 rfl rfl) rfl ?_)
        refine seqq (o_y (y_move rfl) rfl ?_)
        refine seqq (o_y (y_convB UK.u32 Tryz.runUnderlying5 Tryz.runUnderlying22 rfl) rfl ?_)
        refine seqq (o_y (y_orB UK.u32 rfl rfl) rfl ?_)
        refine seqq (o_y (y_indexAddrA Tryz.runUnderlying197 Tryz.sizeOf22 rfl rfl (by omega)) rfl ?_)
        refine seqq (o_storeE Tryz.sizeOf22 rfl rfl (i) (by omega) (by omega) (by rfl) ?_)
        refine c_nil ?_
        refine c_region ?_
        refine seqq (o_y (y_addI rfl rfl (by omega)) rfl ?_)
        refine seqq (o_y (y_move rfl) rfl ?_)
        refine c_nil ?_
        refine j_obj b4 (ps' := [leaf .u32 64 ((sched p i).set i (acc p ((sched p i).getD i 0#32) i (j + 1))) (by simp [sched_len])]) (leaf_congr (by rw [List.set_set]; rfl)) (by rfl) ?_
        exact c_next (j + 1) (by omega) (by omega) ⟨rfl, rfl, rfl, rfl, rfl, rfl, rfl, rfl, trivial⟩
      ·
        obtain rfl : j = 4 := by omega
        refine c_exit ?_
        refine c_exit ?_
        refine c_region ?_
        refine seqq (o_y (y_addI rfl rfl (by omega)) rfl ?_)
        refine seqq (o_y (y_move rfl) rfl ?_)
        refine c_nil ?_
        refine j_obj b4 (ps' := [leaf .u32 64 (sched p (i + 1)) (sched_len p (i + 1))]) (leaf_congr (sched_acc p i (by omega))) (by rfl) ?_
        exact c_next (i + 1) (by omega) (by omega) ⟨rfl, rfl, rfl, rfl, trivial⟩
    ·
      refine c_skip ?_
      refine c_seq ?_
      refine d_reg 9 mixed rfl ?_
      refine d_y (i := 0) (k' := 1) rfl (by kernel_rfl) (y_move rfl) rfl ?_
      refine d_y (i := 1) (k' := 3) rfl (by kernel_rfl) (y_subI rfl rfl (by omega)) rfl ?_
      refine d_y (i := 2) (k' := 7) rfl (by kernel_rfl) (y_indexAddrA Tryz.runUnderlying197 Tryz.sizeOf22 rfl rfl (by omega)) rfl ?_
      refine d_s (i := 3) (k' := 15) rfl (by kernel_rfl) (by kernel_rfl) (lE Tryz.isAgg22 rfl (i - 15) (by omega) (by omega)) hss rfl ?_
      refine d_y (i := 4) (k' := 31) rfl (by kernel_rfl) (y_move rfl) rfl ?_
      refine d_y (i := 5) (k' := 63) rfl (by kernel_rfl) (y_subI rfl rfl (by omega)) rfl ?_
      refine d_y (i := 6) (k' := 127) rfl (by kernel_rfl) (y_indexAddrA Tryz.runUnderlying197 Tryz.sizeOf22 rfl rfl (by omega)) rfl ?_
      refine d_s (i := 7) (k' := 255) rfl (by kernel_rfl) (by kernel_rfl) (lE Tryz.isAgg22 rfl (i - 2) (by omega) (by omega)) hss rfl ?_
      refine d_y (i := 8) (k' := 511) rfl (by kernel_rfl) (y_assign rfl) rfl ?_
      refine d_y (i := 9) (k' := 1023) rfl (by kernel_rfl) (y_assign rfl) rfl ?_
      refine d_end (by kernel_rfl) ?_
      refine c_seq ?_
      refine c_region ?_
      refine seqq (o_y (y_move rfl) rfl ?_)
      refine seqq (o_pure Tryz.call130 rfl (dig_turn _ 7 (by decide) (by decide)) rfl ?_)
      refine seqq (o_y (y_move rfl) rfl ?_)
      refine seqq (o_pure Tryz.call130 rfl (dig_turn _ 18 (by decide) (by decide)) rfl ?_)
      refine seqq (o_y (y_xorB UK.u32 rfl rfl) rfl ?_)
      refine seqq (o_y (y_move rfl) rfl ?_)
      refine seqq (o_y (y_shrB (s := 3) UK.u32 rfl rfl) rfl ?_)
      refine seqq (o_y (y_xorB UK.u32 rfl rfl) rfl ?_)
      refine seqq (o_y (y_assign rfl) rfl ?_)
      refine c_nil ?_
      refine c_seq ?_
      refine c_region ?_
      refine seqq (o_y (y_move rfl) rfl ?_)
      refine seqq (o_pure Tryz.call130 rfl (dig_turn _ 17 (by decide) (by decide)) rfl ?_)
      refine seqq (o_y (y_move rfl) rfl ?_)
      refine seqq (o_pure Tryz.call130 rfl (dig_turn _ 19 (by decide) (by decide)) rfl ?_)
      refine seqq (o_y (y_xorB UK.u32 rfl rfl) rfl ?_)
      refine seqq (o_y (y_move rfl) rfl ?_)
      refine seqq (o_y (y_shrB (s := 10) UK.u32 rfl rfl) rfl ?_)
      refine seqq (o_y (y_xorB UK.u32 rfl rfl) rfl ?_)
      refine seqq (o_y (y_assign rfl) rfl ?_)
      refine c_nil ?_
      refine d_reg 14 mixed rfl ?_
      refine d_y (i := 0) (k' := 1) rfl (by kernel_rfl) (y_move rfl) rfl ?_
      refine d_y (i := 1) (k' := 3) rfl (by kernel_rfl) (y_move rfl) rfl ?_
      refine d_y (i := 2) (k' := 7) rfl (by kernel_rfl) (y_subI rfl rfl (by omega)) rfl ?_
      refine d_y (i := 3) (k' := 15) rfl (by kernel_rfl) (y_indexAddrA Tryz.runUnderlying197 Tryz.sizeOf22 rfl rfl (by omega)) rfl ?_
      refine d_s (i := 4) (k' := 31) rfl (by kernel_rfl) (by kernel_rfl) (lE Tryz.isAgg22 rfl (i - 16) (by omega) (by omega)) hss rfl ?_
      refine d_y (i := 5) (k' := 63) rfl (by kernel_rfl) (y_move rfl) rfl ?_
      refine d_y (i := 6) (k' := 127) rfl (by kernel_rfl) (y_addB UK.u32 rfl rfl) rfl ?_
      refine d_y (i := 7) (k' := 255) rfl (by kernel_rfl) (y_move rfl) rfl ?_
      refine d_y (i := 8) (k' := 511) rfl (by kernel_rfl) (y_subI rfl rfl (by omega)) rfl ?_
      refine d_y (i := 9) (k' := 1023) rfl (by kernel_rfl) (y_indexAddrA Tryz.runUnderlying197 Tryz.sizeOf22 rfl rfl (by omega)) rfl ?_
      refine d_s (i := 10) (k' := 2047) rfl (by kernel_rfl) (by kernel_rfl) (lE Tryz.isAgg22 rfl (i - 7) (by omega) (by omega)) hss rfl ?_
      refine d_y (i := 11) (k' := 4095) rfl (by kernel_rfl) (y_addB UK.u32 rfl rfl) rfl ?_
      refine d_y (i := 12) (k' := 8191) rfl (by kernel_rfl) (y_move rfl) rfl ?_
      refine d_y (i := 13) (k' := 16383) rfl (by kernel_rfl) (y_addB UK.u32 rfl rfl) rfl ?_
      refine d_y (i := 14) (k' := 32767) rfl (by kernel_rfl) (y_indexAddrA Tryz.runUnderlying197 Tryz.sizeOf22 rfl rfl (by omega)) rfl ?_
      refine d_e (i := 15) (k' := 65535) rfl (by kernel_rfl) (o_storeE Tryz.sizeOf22 rfl rfl (i) (by omega) (by omega) (by rfl) ( d_past rfl ?_))
      refine d_end (by kernel_rfl) ?_
      refine c_region ?_
      refine seqq (o_y (y_addI rfl rfl (by omega)) rfl ?_)
      refine seqq (o_y (y_move rfl) rfl ?_)
      refine c_nil ?_
      refine j_obj b4 (ps' := [leaf .u32 64 (sched p (i + 1)) (sched_len p (i + 1))]) (leaf_congr (sched_mix p i (by omega))) (by rfl) ?_
      exact c_next (i + 1) (by omega) (by omega) ⟨rfl, rfl, rfl, rfl, trivial⟩
  ·
    obtain rfl : i = 64 := by omega
    refine c_exit ?_
    refine c_seq ?_
    refine d_reg 7 mixed rfl ?_
    refine d_y (i := 1) (k' := 2) rfl (by kernel_rfl) (y_move rfl) rfl ?_
    refine d_y (i := 2) (k' := 6) rfl (by kernel_rfl) (y_nilCheck rfl) rfl ?_
    refine d_s (i := 3) (k' := 14) rfl (by kernel_rfl) (by kernel_rfl) (lN Tryz.isAgg185 Tryz.sizeOf185 rfl (by rfl)) hss rfl ?_
    refine d_c (i := 0) (k' := 15) rfl (by kernel_rfl) Tryz.call131 rfl (dig_constants) rfl ?_
    refine d_alloc2 (i := 4) (j := 5) (k1 := 31) (k2 := 47) (k3 := 63) (psi := [zleaf .u32 32 64]) (psj := [P1 (bv .u32 0#32), P1 (bv .u32 0#32), P1 (bv .u32 0#32), P1 (bv .u32 0#32), P1 (bv .u32 0#32), P1 (bv .u32 0#32), P1 (bv .u32 0#32), P1 (bv .u32 0#32)]) rfl rfl (by kernel_rfl) (by kernel_rfl) (by kernel_rfl) Tryz.zeroValue197 (by kernel_rfl) rfl Tryz.zeroValue185 (by kernel_rfl) rfl rfl hss (fun b12 b13 => ?_)
    refine d_e (i := 6) (k' := 127) rfl (by kernel_rfl) (stN Tryz.sizeOf197 rfl rfl (by rfl) rfl (by rfl) ( d_keep hss ?_))
    refine d_e (i := 7) (k' := 255) rfl (by kernel_rfl) (stN Tryz.sizeOf185 rfl rfl (by rfl) rfl (by rfl) ( d_past rfl ?_))
    refine d_end (by kernel_rfl) ?_
    refine c_seq ?_
    refine c_seq ?_
    refine c_region ?_
    refine seqq (o_y (y_move rfl) rfl ?_)
    refine j_obj b13 (ps' := s8 (rnds s (sched p 64) 0)) rfl (by rfl) ?_
    refine c_nil ?_
    refine c_block ?_
    refine c_while (X := Nat) [0, 4, 12, 13] [bs, b4, b12] rfl (fun Ek i => (92, vI (i : Int)) :: Ek) (fun Mk i => [(b13, obj 185 (s8 (rnds s (sched p 64) i)))] :: Mk) (fun i => i ≤ 64) (fun i => 64 - i) 0 (by omega) ⟨rfl, rfl, rfl, rfl, rfl, trivial⟩ ?_
    intro i hi
    refine c_seq ?_
    refine c_region ?_
    refine seqq (o_y (y_lssZ rfl rfl) rfl ?_)
    refine c_nil ?_
    refine c_seq ?_
    refine c_if rfl (fun h93 => ?_) (fun h93 => ?_)
    ·
      refine c_skip ?_
      refine c_seq ?_
      refine c_block ?_
      refine c_seq ?_
      refine c_region ?_
      refine seqq (o_y (y_move rfl) rfl ?_)
      refine seqq (o_y (y_assign rfl) rfl ?_)
      refine c_nil ?_
      refine c_seq ?_
      refine c_region ?_
      refine seqq (o_y (y_indexAddrA Tryz.runUnderlying185 Tryz.sizeOf22 rfl rfl (by decide)) rfl ?_)
      refine seqq (o_y (l1 Tryz.isAgg22 rfl (by rfl)) rfl ?_)
      refine seqq (o_y (y_indexAddrA Tryz.runUnderlying185 Tryz.sizeOf22 rfl rfl (by decide)) rfl ?_)
      refine seqq (o_y (l1 Tryz.isAgg22 rfl (by rfl)) rfl ?_)
      refine seqq (o_y (y_andB UK.u32 rfl rfl) rfl ?_)
      refine seqq (o_y (y_indexAddrA Tryz.runUnderlying185 Tryz.sizeOf22 rfl rfl (by decide)) rfl ?_)
      refine seqq (o_y (l1 Tryz.isAgg22 rfl (by rfl)) rfl ?_)
      refine seqq (o_y (y_notB UK.u32 rfl) rfl ?_)
      refine seqq (o_y (y_indexAddrA Tryz.runUnderlying185 Tryz.sizeOf22 rfl rfl (by decide)) rfl ?_)
      refine seqq (o_y (l1 Tryz.isAgg22 rfl (by rfl)) rfl ?_)
      refine seqq (o_y (y_andB UK.u32 rfl rfl) rfl ?_)
      refine seqq (o_y (y_xorB UK.u32 rfl rfl) rfl ?_)
      refine seqq (o_y (y_assign rfl) rfl ?_)
      refine c_nil ?_
      refine c_seq ?_
      refine c_region ?_
      refine seqq (o_y (y_indexAddrA Tryz.runUnderlying185 Tryz.sizeOf22 rfl rfl (by decide)) rfl ?_)
      refine seqq (o_y (l1 Tryz.isAgg22 rfl (by rfl)) rfl ?_)
      refine seqq (o_y (y_indexAddrA Tryz.runUnderlying185 Tryz.sizeOf22 rfl rfl (by decide)) rfl ?_)
      refine seqq (o_y (l1 Tryz.isAgg22 rfl (by rfl)) rfl ?_)
      refine seqq (o_y (y_andB UK.u32 rfl rfl) rfl ?_)
      refine seqq (o_y (y_indexAddrA Tryz.runUnderlying185 Tryz.sizeOf22 rfl rfl (by decide)) rfl ?_)
      refine seqq (o_y (l1 Tryz.isAgg22 rfl (by rfl)) rfl ?_)
      refine seqq (o_y (y_indexAddrA Tryz.runUnderlying185 Tryz.sizeOf22 rfl rfl (by decide)) rfl ?_)
      refine seqq (o_y (l1 Tryz.isAgg22 rfl (by rfl)) rfl ?_)
      refine seqq (o_y (y_andB UK.u32 rfl rfl) rfl ?_)
      refine seqq (o_y (y_xorB UK.u32 rfl rfl) rfl ?_)
      refine seqq (o_y (y_indexAddrA Tryz.runUnderlying185 Tryz.sizeOf22 rfl rfl (by decide)) rfl ?_)
      refine seqq (o_y (l1 Tryz.isAgg22 rfl (by rfl)) rfl ?_)
      refine seqq (o_y (y_indexAddrA Tryz.runUnderlying185 Tryz.sizeOf22 rfl rfl (by decide)) rfl ?_)
      refine seqq (o_y (l1 Tryz.isAgg22 rfl (by rfl)) rfl ?_)
      refine seqq (o_y (y_andB UK.u32 rfl rfl) rfl ?_)
      refine seqq (o_y (y_xorB UK.u32 rfl rfl) rfl ?_)
      refine seqq (o_y (y_assign rfl) rfl ?_)
      refine c_nil ?_
      refine c_seq ?_
      refine d_reg 24 mixed rfl ?_
      refine d_y (i := 0) (k' := 1) rfl (by kernel_rfl) (y_indexAddrA Tryz.runUnderlying185 Tryz.sizeOf22 rfl rfl (by decide)) rfl ?_
      refine d_s (i := 1) (k' := 3) rfl (by kernel_rfl) (by kernel_rfl) (l1 Tryz.isAgg22 rfl (by rfl)) hss rfl ?_
      refine d_y (i := 2) (k' := 7) rfl (by kernel_rfl) (y_indexAddrA Tryz.runUnderlying185 Tryz.sizeOf22 rfl rfl (by decide)) rfl ?_
      refine d_s (i := 3) (k' := 15) rfl (by kernel_rfl) (by kernel_rfl) (l1 Tryz.isAgg22 rfl (by rfl)) hss rfl ?_
      refine d_y (i := 5) (k' := 47) rfl (by kernel_rfl) (y_indexAddrA Tryz.runUnderlying185 Tryz.sizeOf22 rfl rfl (by decide)) rfl ?_
      refine d_s (i := 6) (k' := 111) rfl (by kernel_rfl) (by kernel_rfl) (l1 Tryz.isAgg22 rfl (by rfl)) hss rfl ?_
      refine d_y (i := 9) (k' := 623) rfl (by kernel_rfl) (y_indexAddrA Tryz.runUnderlying185 Tryz.sizeOf22 rfl rfl (by decide)) rfl ?_
      refine d_s (i := 10) (k' := 1647) rfl (by kernel_rfl) (by kernel_rfl) (l1 Tryz.isAgg22 rfl (by rfl)) hss rfl ?_
      refine d_y (i := 14) (k' := 18031) rfl (by kernel_rfl) (y_move rfl) rfl ?_
      refine d_y (i := 16) (k' := 83567) rfl (by kernel_rfl) (y_move rfl) rfl ?_
      refine d_y (i := 17) (k' := 214639) rfl (by kernel_rfl) (y_indexAddrA Tryz.runUnderlying197 Tryz.sizeOf22 rfl rfl (by omega)) rfl ?_
      refine d_s (i := 18) (k' := 476783) rfl (by kernel_rfl) (by kernel_rfl) (lE Tryz.isAgg22 rfl (i) (by omega) (by omega)) hss rfl ?_
      refine d_y (i := 20) (k' := 1525359) rfl (by kernel_rfl) (y_move rfl) rfl ?_
      refine d_y (i := 21) (k' := 3622511) rfl (by kernel_rfl) (y_indexAddrA Tryz.runUnderlying197 Tryz.sizeOf22 rfl rfl (by omega)) rfl ?_
      refine d_s (i := 22) (k' := 7816815) rfl (by kernel_rfl) (by kernel_rfl) (lE Tryz.isAgg22 rfl (i) (by omega) (by omega)) hss rfl ?_
      refine d_c (i := 4) (k' := 7816831) rfl (by kernel_rfl) Tryz.call130 rfl (dig_turn _ 6 (by decide) (by decide)) rfl ?_
      refine d_c (i := 7) (k' := 7816959) rfl (by kernel_rfl) Tryz.call130 rfl (dig_turn _ 11 (by decide) (by decide)) rfl ?_
      refine d_y (i := 8) (k' := 7817215) rfl (by kernel_rfl) (y_xorB UK.u32 rfl rfl) rfl ?_
      refine d_c (i := 11) (k' := 7819263) rfl (by kernel_rfl) Tryz.call130 rfl (dig_turn _ 25 (by decide) (by decide)) rfl ?_
      refine d_y (i := 12) (k' := 7823359) rfl (by kernel_rfl) (y_xorB UK.u32 rfl rfl) rfl ?_
      refine d_y (i := 13) (k' := 7831551) rfl (by kernel_rfl) (y_addB UK.u32 rfl rfl) rfl ?_
      refine d_y (i := 15) (k' := 7864319) rfl (by kernel_rfl) (y_addB UK.u32 rfl rfl) rfl ?_
      refine d_y (i := 19) (k' := 8388607) rfl (by kernel_rfl) (y_addB UK.u32 rfl rfl) rfl ?_
      refine d_y (i := 23) (k' := 16777215) rfl (by kernel_rfl) (y_addB UK.u32 rfl rfl) rfl ?_
      refine d_y (i := 24) (k' := 33554431) rfl (by kernel_rfl) (y_assign rfl) rfl ?_
      refine d_end (by kernel_rfl) ?_
      refine c_seq ?_
      refine d_reg 13 mixed rfl ?_
      refine d_y (i := 0) (k' := 1) rfl (by kernel_rfl) (y_indexAddrA Tryz.runUnderlying185 Tryz.sizeOf22 rfl rfl (by decide)) rfl ?_
      refine d_s (i := 1) (k' := 3) rfl (by kernel_rfl) (by kernel_rfl) (l1 Tryz.isAgg22 rfl (by rfl)) hss rfl ?_
      refine d_y (i := 3) (k' := 11) rfl (by kernel_rfl) (y_indexAddrA Tryz.runUnderlying185 Tryz.sizeOf22 rfl rfl (by decide)) rfl ?_
      refine d_s (i := 4) (k' := 27) rfl (by kernel_rfl) (by kernel_rfl) (l1 Tryz.isAgg22 rfl (by rfl)) hss rfl ?_
      refine d_y (i := 7) (k' := 155) rfl (by kernel_rfl) (y_indexAddrA Tryz.runUnderlying185 Tryz.sizeOf22 rfl rfl (by decide)) rfl ?_
      refine d_s (i := 8) (k' := 411) rfl (by kernel_rfl) (by kernel_rfl) (l1 Tryz.isAgg22 rfl (by rfl)) hss rfl ?_
      refine d_y (i := 11) (k' := 2459) rfl (by kernel_rfl) (y_move rfl) rfl ?_
      refine d_c (i := 2) (k' := 2463) rfl (by kernel_rfl) Tryz.call130 rfl (dig_turn _ 2 (by decide) (by decide)) rfl ?_
      refine d_c (i := 5) (k' := 2495) rfl (by kernel_rfl) Tryz.call130 rfl (dig_turn _ 13 (by decide) (by decide)) rfl ?_
      refine d_y (i := 6) (k' := 2559) rfl (by kernel_rfl) (y_xorB UK.u32 rfl rfl) rfl ?_
      refine d_c (i := 9) (k' := 3071) rfl (by kernel_rfl) Tryz.call130 rfl (dig_turn _ 22 (by decide) (by decide)) rfl ?_
      refine d_y (i := 10) (k' := 4095) rfl (by kernel_rfl) (y_xorB UK.u32 rfl rfl) rfl ?_
      refine d_y (i := 12) (k' := 8191) rfl (by kernel_rfl) (y_addB UK.u32 rfl rfl) rfl ?_
      refine d_y (i := 13) (k' := 16383) rfl (by kernel_rfl) (y_assign rfl) rfl ?_
      refine d_end (by kernel_rfl) ?_
      refine c_region ?_
      refine seqq (o_y (y_move rfl) rfl ?_)
      refine seqq (o_y (y_move rfl) rfl ?_)
      refine seqq (o_y (y_addB UK.u32 rfl rfl) rfl ?_)
      refine seqq (o_y (y_indexAddrA Tryz.runUnderlying185 Tryz.sizeOf22 rfl rfl (by decide)) rfl ?_)
      refine seqq (o_y (l1 Tryz.isAgg22 rfl (by rfl)) rfl ?_)
      refine seqq (o_y (y_indexAddrA Tryz.runUnderlying185 Tryz.sizeOf22 rfl rfl (by decide)) rfl ?_)
      refine seqq (o_y (l1 Tryz.isAgg22 rfl (by rfl)) rfl ?_)
      refine seqq (o_y (y_indexAddrA Tryz.runUnderlying185 Tryz.sizeOf22 rfl rfl (by decide)) rfl ?_)
      refine seqq (o_y (l1 Tryz.isAgg22 rfl (by rfl)) rfl ?_)
      refine seqq (o_y (y_indexAddrA Tryz.runUnderlying185 Tryz.sizeOf22 rfl rfl (by decide)) rfl ?_)
      refine seqq (o_y (l1 Tryz.isAgg22 rfl (by rfl)) rfl ?_)
      refine seqq (o_y (y_move rfl) rfl ?_)
      refine seqq (o_y (y_addB UK.u32 rfl rfl) rfl ?_)
      refine seqq (o_y (y_indexAddrA Tryz.runUnderlying185 Tryz.sizeOf22 rfl rfl (by decide)) rfl ?_)
      refine seqq (o_y (l1 Tryz.isAgg22 rfl (by rfl)) rfl ?_)
      refine seqq (o_y (y_indexAddrA Tryz.runUnderlying185 Tryz.sizeOf22 rfl rfl (by decide)) rfl ?_)
      refine seqq (o_y (l1 Tryz.isAgg22 rfl (by rfl)) rfl ?_)
      refine seqq (o_y (y_indexAddrA Tryz.runUnderlying185 Tryz.sizeOf22 rfl rfl (by decide)) rfl ?_)
      refine seqq (o_y (l1 Tryz.isAgg22 rfl (by rfl)) rfl ?_)
      refine seqq (o_y (y_buildA (zs := [P1 (bv .u32 0#32), P1 (bv .u32 0#32), P1 (bv .u32 0#32), P1 (bv .u32 0#32), P1 (bv .u32 0#32), P1 (bv .u32 0#32), P1 (bv .u32 0#32), P1 (bv .u32 0#32)]) Tryz.runUnderlying185 Tryz.sizeOf22 Tryz.zeroValue185 (by kernel_rfl) (.one rfl rfl (.one rfl rfl (.one rfl rfl (.one rfl rfl (.one rfl rfl (.one rfl rfl (.one rfl rfl (.one rfl rfl .nil)))))))) (by rfl)) rfl ?_)
      refine seqq (stN Tryz.sizeOf185 rfl rfl (by rfl) rfl (by rfl) ?_)
      refine c_nil ?_
      refine c_region ?_
      refine seqq (o_y (y_addI rfl rfl (by omega)) rfl ?_)
      refine seqq (o_y (y_move rfl) rfl ?_)
      refine c_nil ?_
      refine j_obj b13 (ps' := s8 (rnds s (sched p 64) (i + 1))) rfl (by rfl) ?_
      exact c_next (i + 1) (by omega) (by omega) ⟨rfl, rfl, rfl, rfl, rfl, trivial⟩
    ·
      obtain rfl : i = 64 := by omega
      refine c_exit ?_
      refine c_seq ?_
      refine c_region ?_
      refine seqq (o_y (lN Tryz.isAgg185 Tryz.sizeOf185 rfl (by rfl)) rfl ?_)
      refine seqq (o_y (y_move rfl) rfl ?_)
      refine c_nil ?_
      refine c_block ?_
      refine c_loop 9 ?_
      refine c_round ?_
      refine c_seq ?_
      refine c_region ?_
      refine seqq (o_y (y_binZ (v := .bool true) rfl rfl (fun _ => by rfl)) rfl ?_)
      refine c_nil ?_
      refine c_seq ?_
      refine c_condT rfl ?_
      refine c_skip ?_
      refine c_seq ?_
      refine c_block ?_
      refine c_seq ?_
      refine c_region ?_
      refine seqq (o_y (y_move rfl) rfl ?_)
      refine seqq (o_y (y_index1 Tryz.runUnderlying185 Tryz.isAgg22 Tryz.sizeOf22 rfl rfl (by decide) (by rfl)) rfl ?_)
      refine seqq (o_y (y_assign rfl) rfl ?_)
      refine seqq (o_y (y_assign rfl) rfl ?_)
      refine c_nil ?_
      refine d_reg 8 mixed rfl ?_
      refine d_y (i := 0) (k' := 1) rfl (by kernel_rfl) (y_move rfl) rfl ?_
      refine d_y (i := 1) (k' := 3) rfl (by kernel_rfl) (y_move rfl) rfl ?_
      refine d_y (i := 2) (k' := 7) rfl (by kernel_rfl) (y_nilCheck rfl) rfl ?_
      refine d_y (i := 3) (k' := 15) rfl (by kernel_rfl) (y_indexAddrA Tryz.runUnderlying185 Tryz.sizeOf22 rfl rfl (by decide)) rfl ?_
      refine d_s (i := 4) (k' := 31) rfl (by kernel_rfl) (by kernel_rfl) (l1 Tryz.isAgg22 rfl (by rfl)) hss rfl ?_
      refine d_y (i := 5) (k' := 63) rfl (by kernel_rfl) (y_move rfl) rfl ?_
      refine d_y (i := 6) (k' := 127) rfl (by kernel_rfl) (y_addB UK.u32 rfl rfl) rfl ?_
      refine d_y (i := 7) (k' := 255) rfl (by kernel_rfl) (y_nilCheck rfl) rfl ?_
      refine d_y (i := 8) (k' := 511) rfl (by kernel_rfl) (y_indexAddrA Tryz.runUnderlying185 Tryz.sizeOf22 rfl rfl (by decide)) rfl ?_
      refine d_e (i := 9) (k' := 1023) rfl (by kernel_rfl) (st1 (h1 := rfl) Tryz.sizeOf22 rfl rfl (by rfl) (by rfl) ( d_past rfl ?_))
      refine d_end (by kernel_rfl) ?_
      refine c_region ?_
      refine seqq (o_y (y_binZ (v := .int .i64 1) rfl rfl (fun _ => by rfl)) rfl ?_)
      refine seqq (o_y (y_move rfl) rfl ?_)
      refine c_nil ?_
      refine c_round ?_
      refine c_seq ?_
      refine c_region ?_
      refine seqq (o_y (y_binZ (v := .bool true) rfl rfl (fun _ => by rfl)) rfl ?_)
      refine c_nil ?_
      refine c_seq ?_
      refine c_condT rfl ?_
      refine c_skip ?_
      refine c_seq ?_
      refine c_block ?_
      refine c_seq ?_
      refine c_region ?_
      refine seqq (o_y (y_move rfl) rfl ?_)
      refine seqq (o_y (y_index1 Tryz.runUnderlying185 Tryz.isAgg22 Tryz.sizeOf22 rfl rfl (by decide) (by rfl)) rfl ?_)
      refine seqq (o_y (y_assign rfl) rfl ?_)
      refine seqq (o_y (y_assign rfl) rfl ?_)
      refine c_nil ?_
      refine d_reg 8 mixed rfl ?_
      refine d_y (i := 0) (k' := 1) rfl (by kernel_rfl) (y_move rfl) rfl ?_
      refine d_y (i := 1) (k' := 3) rfl (by kernel_rfl) (y_move rfl) rfl ?_
      refine d_y (i := 2) (k' := 7) rfl (by kernel_rfl) (y_nilCheck rfl) rfl ?_
      refine d_y (i := 3) (k' := 15) rfl (by kernel_rfl) (y_indexAddrA Tryz.runUnderlying185 Tryz.sizeOf22 rfl rfl (by decide)) rfl ?_
      refine d_s (i := 4) (k' := 31) rfl (by kernel_rfl) (by kernel_rfl) (l1 Tryz.isAgg22 rfl (by rfl)) hss rfl ?_
      refine d_y (i := 5) (k' := 63) rfl (by kernel_rfl) (y_move rfl) rfl ?_
      refine d_y (i := 6) (k' := 127) rfl (by kernel_rfl) (y_addB UK.u32 rfl rfl) rfl ?_
      refine d_y (i := 7) (k' := 255) rfl (by kernel_rfl) (y_nilCheck rfl) rfl ?_
      refine d_y (i := 8) (k' := 511) rfl (by kernel_rfl) (y_indexAddrA Tryz.runUnderlying185 Tryz.sizeOf22 rfl rfl (by decide)) rfl ?_
      refine d_e (i := 9) (k' := 1023) rfl (by kernel_rfl) (st1 (h1 := rfl) Tryz.sizeOf22 rfl rfl (by rfl) (by rfl) ( d_past rfl ?_))
      refine d_end (by kernel_rfl) ?_
      refine c_region ?_
      refine seqq (o_y (y_binZ (v := .int .i64 2) rfl rfl (fun _ => by rfl)) rfl ?_)
      refine seqq (o_y (y_move rfl) rfl ?_)
      refine c_nil ?_
      refine c_round ?_
      refine c_seq ?_
      refine c_region ?_
      refine seqq (o_y (y_binZ (v := .bool true) rfl rfl (fun _ => by rfl)) rfl ?_)
      refine c_nil ?_
      refine c_seq ?_
      refine c_condT rfl ?_
      refine c_skip ?_
      refine c_seq ?_
      refine c_block ?_
      refine c_seq ?_
      refine c_region ?_
      refine seqq (o_y (y_move rfl) rfl ?_)
      refine seqq (o_y (y_index1 Tryz.runUnderlying185 Tryz.isAgg22 Tryz.sizeOf22 rfl rfl (by decide) (by rfl)) rfl ?_)
      refine seqq (o_y (y_assign rfl) rfl ?_)
      refine seqq (o_y (y_assign rfl) rfl ?_)
      refine c_nil ?_
      refine d_reg 8 mixed rfl ?_
      refine d_y (i := 0) (k' := 1) rfl (by kernel_rfl) (y_move rfl) rfl ?_
      refine d_y (i := 1) (k' := 3) rfl (by kernel_rfl) (y_move rfl) rfl ?_
      refine d_y (i := 2) (k' := 7) rfl (by kernel_rfl) (y_nilCheck rfl) rfl ?_
      refine d_y (i := 3) (k' := 15) rfl (by kernel_rfl) (y_indexAddrA Tryz.runUnderlying185 Tryz.sizeOf22 rfl rfl (by decide)) rfl ?_
      refine d_s (i := 4) (k' := 31) rfl (by kernel_rfl) (by kernel_rfl) (l1 Tryz.isAgg22 rfl (by rfl)) hss rfl ?_
      refine d_y (i := 5) (k' := 63) rfl (by kernel_rfl) (y_move rfl) rfl ?_
      refine d_y (i := 6) (k' := 127) rfl (by kernel_rfl) (y_addB UK.u32 rfl rfl) rfl ?_
      refine d_y (i := 7) (k' := 255) rfl (by kernel_rfl) (y_nilCheck rfl) rfl ?_
      refine d_y (i := 8) (k' := 511) rfl (by kernel_rfl) (y_indexAddrA Tryz.runUnderlying185 Tryz.sizeOf22 rfl rfl (by decide)) rfl ?_
      refine d_e (i := 9) (k' := 1023) rfl (by kernel_rfl) (st1 (h1 := rfl) Tryz.sizeOf22 rfl rfl (by rfl) (by rfl) ( d_past rfl ?_))
      refine d_end (by kernel_rfl) ?_
      refine c_region ?_
      refine seqq (o_y (y_binZ (v := .int .i64 3) rfl rfl (fun _ => by rfl)) rfl ?_)
      refine seqq (o_y (y_move rfl) rfl ?_)
      refine c_nil ?_
      refine c_round ?_
      refine c_seq ?_
      refine c_region ?_
      refine seqq (o_y (y_binZ (v := .bool true) rfl rfl (fun _ => by rfl)) rfl ?_)
      refine c_nil ?_
      refine c_seq ?_
      refine c_condT rfl ?_
      refine c_skip ?_
      refine c_seq ?_
      refine c_block ?_
      refine c_seq ?_
      refine c_region ?_
      refine seqq (o_y (y_move rfl) rfl ?_)
      refine seqq (o_y (y_index1 Tryz.runUnderlying185 Tryz.isAgg22 Tryz.sizeOf22 rfl rfl (by decide) (by rfl)) rfl ?_)
      refine seqq (o_y (y_assign rfl) rfl ?_)
      refine seqq (o_y (y_assign rfl) rfl ?_)
      refine c_nil ?_
      refine d_reg 8 mixed rfl ?_
      refine d_y (i := 0) (k' := 1) rfl (by kernel_rfl) (y_move rfl) rfl ?_
      refine d_y (i := 1) (k' := 3) rfl (by kernel_rfl) (y_move rfl) rfl ?_
      refine d_y (i := 2) (k' := 7) rfl (by kernel_rfl) (y_nilCheck rfl) rfl ?_
      refine d_y (i := 3) (k' := 15) rfl (by kernel_rfl) (y_indexAddrA Tryz.runUnderlying185 Tryz.sizeOf22 rfl rfl (by decide)) rfl ?_
      refine d_s (i := 4) (k' := 31) rfl (by kernel_rfl) (by kernel_rfl) (l1 Tryz.isAgg22 rfl (by rfl)) hss rfl ?_
      refine d_y (i := 5) (k' := 63) rfl (by kernel_rfl) (y_move rfl) rfl ?_
      refine d_y (i := 6) (k' := 127) rfl (by kernel_rfl) (y_addB UK.u32 rfl rfl) rfl ?_
      refine d_y (i := 7) (k' := 255) rfl (by kernel_rfl) (y_nilCheck rfl) rfl ?_
      refine d_y (i := 8) (k' := 511) rfl (by kernel_rfl) (y_indexAddrA Tryz.runUnderlying185 Tryz.sizeOf22 rfl rfl (by decide)) rfl ?_
      refine d_e (i := 9) (k' := 1023) rfl (by kernel_rfl) (st1 (h1 := rfl) Tryz.sizeOf22 rfl rfl (by rfl) (by rfl) ( d_past rfl ?_))
      refine d_end (by kernel_rfl) ?_
      refine c_region ?_
      refine seqq (o_y (y_binZ (v := .int .i64 4) rfl rfl (fun _ => by rfl)) rfl ?_)
      refine seqq (o_y (y_move rfl) rfl ?_)
      refine c_nil ?_
      refine c_round ?_
      refine c_seq ?_
      refine c_region ?_
      refine seqq (o_y (y_binZ (v := .bool true) rfl rfl (fun _ => by rfl)) rfl ?_)
      refine c_nil ?_
      refine c_seq ?_
      refine c_condT rfl ?_
      refine c_skip ?_
      refine c_seq ?_
      refine c_block ?_
      refine c_seq ?_
      refine c_region ?_
      refine seqq (o_y (y_move rfl) rfl ?_)
      refine seqq (o_y (y_index1 Tryz.runUnderlying185 Tryz.isAgg22 Tryz.sizeOf22 rfl rfl (by decide) (by rfl)) rfl ?_)
      refine seqq (o_y (y_assign rfl) rfl ?_)
      refine seqq (o_y (y_assign rfl) rfl ?_)
      refine c_nil ?_
      refine d_reg 8 mixed rfl ?_
      refine d_y (i := 0) (k' := 1) rfl (by kernel_rfl) (y_move rfl) rfl ?_
      refine d_y (i := 1) (k' := 3) rfl (by kernel_rfl) (y_move rfl) rfl ?_
      refine d_y (i := 2) (k' := 7) rfl (by kernel_rfl) (y_nilCheck rfl) rfl ?_
      refine d_y (i := 3) (k' := 15) rfl (by kernel_rfl) (y_indexAddrA Tryz.runUnderlying185 Tryz.sizeOf22 rfl rfl (by decide)) rfl ?_
      refine d_s (i := 4) (k' := 31) rfl (by kernel_rfl) (by kernel_rfl) (l1 Tryz.isAgg22 rfl (by rfl)) hss rfl ?_
      refine d_y (i := 5) (k' := 63) rfl (by kernel_rfl) (y_move rfl) rfl ?_
      refine d_y (i := 6) (k' := 127) rfl (by kernel_rfl) (y_addB UK.u32 rfl rfl) rfl ?_
      refine d_y (i := 7) (k' := 255) rfl (by kernel_rfl) (y_nilCheck rfl) rfl ?_
      refine d_y (i := 8) (k' := 511) rfl (by kernel_rfl) (y_indexAddrA Tryz.runUnderlying185 Tryz.sizeOf22 rfl rfl (by decide)) rfl ?_
      refine d_e (i := 9) (k' := 1023) rfl (by kernel_rfl) (st1 (h1 := rfl) Tryz.sizeOf22 rfl rfl (by rfl) (by rfl) ( d_past rfl ?_))
      refine d_end (by kernel_rfl) ?_
      refine c_region ?_
      refine seqq (o_y (y_binZ (v := .int .i64 5) rfl rfl (fun _ => by rfl)) rfl ?_)
      refine seqq (o_y (y_move rfl) rfl ?_)
      refine c_nil ?_
      refine c_round ?_
      refine c_seq ?_
      refine c_region ?_
      refine seqq (o_y (y_binZ (v := .bool true) rfl rfl (fun _ => by rfl)) rfl ?_)
      refine c_nil ?_
      refine c_seq ?_
      refine c_condT rfl ?_
      refine c_skip ?_
      refine c_seq ?_
      refine c_block ?_
      refine c_seq ?_
      refine c_region ?_
      refine seqq (o_y (y_move rfl) rfl ?_)
      refine seqq (o_y (y_index1 Tryz.runUnderlying185 Tryz.isAgg22 Tryz.sizeOf22 rfl rfl (by decide) (by rfl)) rfl ?_)
      refine seqq (o_y (y_assign rfl) rfl ?_)
      refine seqq (o_y (y_assign rfl) rfl ?_)
      refine c_nil ?_
      refine d_reg 8 mixed rfl ?_
      refine d_y (i := 0) (k' := 1) rfl (by kernel_rfl) (y_move rfl) rfl ?_
      refine d_y (i := 1) (k' := 3) rfl (by kernel_rfl) (y_move rfl) rfl ?_
      refine d_y (i := 2) (k' := 7) rfl (by kernel_rfl) (y_nilCheck rfl) rfl ?_
      refine d_y (i := 3) (k' := 15) rfl (by kernel_rfl) (y_indexAddrA Tryz.runUnderlying185 Tryz.sizeOf22 rfl rfl (by decide)) rfl ?_
      refine d_s (i := 4) (k' := 31) rfl (by kernel_rfl) (by kernel_rfl) (l1 Tryz.isAgg22 rfl (by rfl)) hss rfl ?_
      refine d_y (i := 5) (k' := 63) rfl (by kernel_rfl) (y_move rfl) rfl ?_
      refine d_y (i := 6) (k' := 127) rfl (by kernel_rfl) (y_addB UK.u32 rfl rfl) rfl ?_
      refine d_y (i := 7) (k' := 255) rfl (by kernel_rfl) (y_nilCheck rfl) rfl ?_
      refine d_y (i := 8) (k' := 511) rfl (by kernel_rfl) (y_indexAddrA Tryz.runUnderlying185 Tryz.sizeOf22 rfl rfl (by decide)) rfl ?_
      refine d_e (i := 9) (k' := 1023) rfl (by kernel_rfl) (st1 (h1 := rfl) Tryz.sizeOf22 rfl rfl (by rfl) (by rfl) ( d_past rfl ?_))
      refine d_end (by kernel_rfl) ?_
      refine c_region ?_
      refine seqq (o_y (y_binZ (v := .int .i64 6) rfl rfl (fun _ => by rfl)) rfl ?_)
      refine seqq (o_y (y_move rfl) rfl ?_)
      refine c_nil ?_
      refine c_round ?_
      refine c_seq ?_
      refine c_region ?_
      refine seqq (o_y (y_binZ (v := .bool true) rfl rfl (fun _ => by rfl)) rfl ?_)
      refine c_nil ?_
      refine c_seq ?_
      refine c_condT rfl ?_
      refine c_skip ?_
      refine c_seq ?_
      refine c_block ?_
      refine c_seq ?_
      refine c_region ?_
      refine seqq (o_y (y_move rfl) rfl ?_)
      refine seqq (o_y (y_index1 Tryz.runUnderlying185 Tryz.isAgg22 Tryz.sizeOf22 rfl rfl (by decide) (by rfl)) rfl ?_)
      refine seqq (o_y (y_assign rfl) rfl ?_)
      refine seqq (o_y (y_assign rfl) rfl ?_)
      refine c_nil ?_
      refine d_reg 8 mixed rfl ?_
      refine d_y (i := 0) (k' := 1) rfl (by kernel_rfl) (y_move rfl) rfl ?_
      refine d_y (i := 1) (k' := 3) rfl (by kernel_rfl) (y_move rfl) rfl ?_
      refine d_y (i := 2) (k' := 7) rfl (by kernel_rfl) (y_nilCheck rfl) rfl ?_
      refine d_y (i := 3) (k' := 15) rfl (by kernel_rfl) (y_indexAddrA Tryz.runUnderlying185 Tryz.sizeOf22 rfl rfl (by decide)) rfl ?_
      refine d_s (i := 4) (k' := 31) rfl (by kernel_rfl) (by kernel_rfl) (l1 Tryz.isAgg22 rfl (by rfl)) hss rfl ?_
      refine d_y (i := 5) (k' := 63) rfl (by kernel_rfl) (y_move rfl) rfl ?_
      refine d_y (i := 6) (k' := 127) rfl (by kernel_rfl) (y_addB UK.u32 rfl rfl) rfl ?_
      refine d_y (i := 7) (k' := 255) rfl (by kernel_rfl) (y_nilCheck rfl) rfl ?_
      refine d_y (i := 8) (k' := 511) rfl (by kernel_rfl) (y_indexAddrA Tryz.runUnderlying185 Tryz.sizeOf22 rfl rfl (by decide)) rfl ?_
      refine d_e (i := 9) (k' := 1023) rfl (by kernel_rfl) (st1 (h1 := rfl) Tryz.sizeOf22 rfl rfl (by rfl) (by rfl) ( d_past rfl ?_))
      refine d_end (by kernel_rfl) ?_
      refine c_region ?_
      refine seqq (o_y (y_binZ (v := .int .i64 7) rfl rfl (fun _ => by rfl)) rfl ?_)
      refine seqq (o_y (y_move rfl) rfl ?_)
      refine c_nil ?_
      refine c_round ?_
      refine c_seq ?_
      refine c_region ?_
      refine seqq (o_y (y_binZ (v := .bool true) rfl rfl (fun _ => by rfl)) rfl ?_)
      refine c_nil ?_
      refine c_seq ?_
      refine c_condT rfl ?_
      refine c_skip ?_
      refine c_seq ?_
      refine c_block ?_
      refine c_seq ?_
      refine c_region ?_
      refine seqq (o_y (y_move rfl) rfl ?_)
      refine seqq (o_y (y_index1 Tryz.runUnderlying185 Tryz.isAgg22 Tryz.sizeOf22 rfl rfl (by decide) (by rfl)) rfl ?_)
      refine seqq (o_y (y_assign rfl) rfl ?_)
      refine seqq (o_y (y_assign rfl) rfl ?_)
      refine c_nil ?_
      refine d_reg 8 mixed rfl ?_
      refine d_y (i := 0) (k' := 1) rfl (by kernel_rfl) (y_move rfl) rfl ?_
      refine d_y (i := 1) (k' := 3) rfl (by kernel_rfl) (y_move rfl) rfl ?_
      refine d_y (i := 2) (k' := 7) rfl (by kernel_rfl) (y_nilCheck rfl) rfl ?_
      refine d_y (i := 3) (k' := 15) rfl (by kernel_rfl) (y_indexAddrA Tryz.runUnderlying185 Tryz.sizeOf22 rfl rfl (by decide)) rfl ?_
      refine d_s (i := 4) (k' := 31) rfl (by kernel_rfl) (by kernel_rfl) (l1 Tryz.isAgg22 rfl (by rfl)) hss rfl ?_
      refine d_y (i := 5) (k' := 63) rfl (by kernel_rfl) (y_move rfl) rfl ?_
      refine d_y (i := 6) (k' := 127) rfl (by kernel_rfl) (y_addB UK.u32 rfl rfl) rfl ?_
      refine d_y (i := 7) (k' := 255) rfl (by kernel_rfl) (y_nilCheck rfl) rfl ?_
      refine d_y (i := 8) (k' := 511) rfl (by kernel_rfl) (y_indexAddrA Tryz.runUnderlying185 Tryz.sizeOf22 rfl rfl (by decide)) rfl ?_
      refine d_e (i := 9) (k' := 1023) rfl (by kernel_rfl) (st1 (h1 := rfl) Tryz.sizeOf22 rfl rfl (by rfl) (by rfl) ( d_past rfl ?_))
      refine d_end (by kernel_rfl) ?_
      refine c_region ?_
      refine seqq (o_y (y_binZ (v := .int .i64 8) rfl rfl (fun _ => by rfl)) rfl ?_)
      refine seqq (o_y (y_move rfl) rfl ?_)
      refine c_nil ?_
      refine c_round ?_
      refine c_seq ?_
      refine c_region ?_
      refine seqq (o_y (y_binZ (v := .bool false) rfl rfl (fun _ => by rfl)) rfl ?_)
      refine c_nil ?_
      refine c_seq ?_
      refine c_condF rfl ?_
      refine c_exit ?_
      refine c_end ?_
      refine j_obj bs (ps' := s8 (blk8 s p)) rfl (by rfl) ?_
      refine c_done0 Tryz.results118  (fun w hS => ?_)
      exact ⟨rfl, hS.fin (N := [[(bs, obj 185 (s8 (blk8 s p)))]])⟩
