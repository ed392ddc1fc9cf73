/- Walks and laws of this claim, part Rel. -/
import Derived.Test.YtjoniieoaokimaaGreatVTre5
set_option linter.unusedVariables false
set_option linter.unusedSimpArgs false
set_option linter.unusedSectionVars false
set_option autoImplicit true
set_option relaxedAutoImplicit true
set_option maxRecDepth 100000
set_option maxHeartbeats 1000000
namespace Go.Proofs
open V
/-! ### relays -/
theorem eqH (a b : H32) : EqR Tryz.prog 10000 26 (vH a) (vH b) (decide (a = b)) := by
  refine (eq_leaf (d := 9998) (k := .u8) (ei := Tryz.t5) Tryz.underlying26 Tryz.underlying5 Tryz.isAgg5 (by kernel_rfl) (by kernel_rfl) : EqR Tryz.prog 10000 26 (vH a) (vH b) _).to ?_
  rw [decide_eq_decide]
  exact ⟨fun h => Subtype.ext h, fun h => by rw [h]⟩
theorem y_eqH {E : Env} {x y : Operand} {S : World → Prop} {T : TypeId} {a b : H32} (hx : val E x = some (vH a)) (hy : val E y = some (vH b)) : Yl Tryz.prog S E (.binOp .eql 26 x y T) (.bool (decide (a = b))) := y_eqlA hx hy (by kernel_rfl) (eqH a b)
theorem y_neqH {E : Env} {x y : Operand} {S : World → Prop} {T : TypeId} {a b : H32} (hx : val E x = some (vH a)) (hy : val E y = some (vH b)) : Yl Tryz.prog S E (.binOp .neq 26 x y T) (.bool (!decide (a = b))) := y_neqA hx hy (by kernel_rfl) (eqH a b)
theorem o_new4 {P : Program} {ops : Array Oper} {Q : Exit → Act → World → Prop} {K : Act → World → Prop} {n : Nat} {D : List Deferred} {E : Env} {σ : Bs} {M : List Seg} {ty : TypeId} {pos : String} {after : Array Edge} {f : FuncId} {xs : List Operand} {vs : List Value} {tys : Array TypeId} {t : Nat} {X : Type} {v : X → Value} {A B C A' : X → Seg} {p : X → Prop}
    (hf : ∀ args w, (callFunc f args).run P w = .ok (.enter f args) w) (hxs : vals E xs = some vs) (ht : Nat.blt t n = true)
    (hc : ∀ w, Pts (σ.R ++ M) w → Quiet P f vs (fun u L => ∃ x, p x ∧ u = v x ∧ L = [A x, B x, C x, A' x]) w)
    (h : ∀ x, p x → J n D ((t, v x) :: E) σ (A x :: B x :: C x :: A' x :: M) K) :
    J n D E σ M (Op1 P ops Q ⟨some t, .call ⟨.value (.func f), xs.toArray, tys⟩, ty, pos, after, none⟩ K) := o_newL (L' := fun x => [A x, B x, C x, A' x]) hf hxs ht hc h
/-- a tree that stays where it is -/
abbrev Tr.at (x : Tr) (b : Nat) : Tr := { x with bt := b }
def newS (r : Rl) : TS := ⟨r, [nd1 r.first], [0], 1⟩
theorem tree_New2 (r : Rl) (hc : checkR r = 0) (w : World) : Quiet Tryz.prog 10 [vRl r] (fun u L => ∃ τ : Tr, (τ.ok ∧ τ.s = newS r) ∧ u = .tuple #[.pointer (some ⟨τ.bt, 0, none⟩), vI 0] ∧ L = treeM τ) w :=
  (tree_New r hc w).mono (by
    rintro e w' ⟨v, rfl, L', ⟨x, _, hu, hL⟩, hS⟩
    exact ⟨v, rfl, L', ⟨newTr r x, ⟨newTr_ok r x, rfl⟩, hu, hL⟩, hS⟩)
theorem tree_Add2 (τ : Tr) (ok : τ.ok) (h : Hd) (w : World) (hSt : St w (dom (treeM τ)) [] (treeM τ) w) :
    Calls Tryz.prog 15 [.pointer (some ⟨τ.bt, 0, none⟩), vHd h].toArray w (Ret fun u w' => ∃ x : Tr, ((x.at τ.bt).ok ∧ (x.at τ.bt).s = τ.s.add h) ∧ u = vI (τ.s.err h) ∧ St w (dom (treeM τ)) [] (treeM (x.at τ.bt)) w') :=
  (tree_Add τ ok h w hSt).mono (by
    rintro e w' ⟨v, rfl, hu, τ', ⟨h1, h2, h3⟩, hS⟩
    refine ⟨v, rfl, τ', ?_⟩
    have e : τ'.at τ.bt = τ' := by rw [← h2]
    rw [e]
    exact ⟨⟨h1, h3⟩, hu, hS⟩)
def reP (r : Rl) (bt : Nat) (deep : Int) : List Part := [P1 (vI r.every) rfl, P1 (bv .u32 r.span) rfl, P1 (bv .u32 r.limit) rfl, P1 (vI r.confirm) rfl, P1 (bv .u32 r.first.ver) rfl, hP r.first.ahead, hP r.first.root, P1 (bv .u32 r.first.time) rfl, P1 (bv .u32 r.first.bits) rfl, P1 (bv .u32 r.first.nonce) rfl, P1 (.pointer (some ⟨bt, 0, none⟩)) rfl, P1 (vI deep) rfl]
abbrev relM (br : Nat) (deep : Int) (τ : Tr) : List Seg := [(br, obj 124 (reP τ.r τ.bt deep))] :: treeM τ
structure Told where
  hash : H32
  height : Int
  best : Bool
  turned : Int
def told0 : Told := ⟨h0, 0, false, 0⟩
def toldP (x : Told) : List Part := [hP x.hash, P1 (vI x.height) rfl, P1 (.bool x.best) rfl, P1 (vI x.turned) rfl]
def bestH (s : TS) : H32 := hashH (nd s.L (bestI s.ch)).h
def turnedT (s : TS) (h : Hd) : Int := if bestH (s.add h) = hashH h then heightT (s.add h).L (bestH s) - (forkT (s.add h).L (bestH s) (hashH h)).1 else 0
def toldT (s : TS) (h : Hd) : Told := if s.err h = 0 then ⟨hashH h, heightT (s.add h).L (hashH h), decide (bestH (s.add h) = hashH h), turnedT s h⟩ else told0
def deepT (s : TS) (deep : Int) (h : Hd) : Int := if s.err h = 0 then (if deep < turnedT s h then turnedT s h else deep) else deep
theorem nb_t {b : Bool} (h : (!b) = true) : b = false := by cases b <;> simp_all
theorem nb_f {b : Bool} (h : (!b) = false) : ¬ b = false := by cases b <;> simp_all
theorem rel_eq {br : Nat} {deep : Int} {x : Tr} {b : Nat} {r : Rl} (h : (x.at b).r = r) : relM br deep (x.at b) = [(br, obj 124 (reP r b deep))] :: treeM (x.at b) := by subst h; rfl
theorem add_r (s : TS) (h : Hd) : (s.add h).r = s.r := by unfold TS.add; split <;> rfl
theorem heightT_bd {L : List Nd} (ok : LOk L) (h : H32) : 0 ≤ heightT L h ∧ heightT L h ≤ 4096 := by
  unfold heightT
  have hb := ok.big
  cases hf : findT L h with
  | none => exact ⟨Int.le_refl _, (by decide : (0 : Int) ≤ 4096)⟩
  | some i => have := height_le ok i (findT_spec hf).1; have := (findT_spec hf).1; dsimp only; omega
theorem forkI_lt {L : List Nd} (ok : LOk L) : ∀ (n i j : Nat), i < L.length → j < L.length → forkI L n i j < L.length
  | 0, _, _, hi, _ => hi
  | n + 1, i, j, hi, hj => by
    have key : ∀ k, k < L.length → (nd L k).ahead.getD 0 < L.length := fun k hk => by
      cases ha : (nd L k).ahead with
      | none => exact ok.pos
      | some q => have := (ahead_lt ok hk ha).1; simp only [Option.getD_some]; omega
    rw [forkI]
    split
    · exact hi
    · split
      · exact forkI_lt ok n _ _ (key i hi) hj
      · exact forkI_lt ok n _ _ hi (key j hj)
theorem forkT_bd {L : List Nd} (ok : LOk L) (a b : H32) : 0 ≤ (forkT L a b).1 ∧ (forkT L a b).1 ≤ 4096 := by
  unfold forkT
  have hb := ok.big
  cases ha : findT L a with
  | none => exact ⟨Int.le_refl _, (by decide : (0 : Int) ≤ 4096)⟩
  | some i =>
    cases hb' : findT L b with
    | none => exact ⟨Int.le_refl _, (by decide : (0 : Int) ≤ 4096)⟩
    | some j =>
      have h1 := forkI_lt ok (hsum L i j) i j (findT_spec ha).1 (findT_spec hb').1
      have := height_le ok _ h1
      dsimp only; omega

theorem relay_New (r : Rl) (hc : checkR r = 0) (w : World) : Quiet Tryz.prog 19 [vRl r] (fun u L => ∃ x : Nat × Tr, (x.2.ok ∧ x.2.s = newS r) ∧ u = .tuple #[.pointer (some ⟨x.1, 0, none⟩), vI 0] ∧ L = relM x.1 0 x.2) w := by
  refine begin0 Tryz.func19 rfl Tryz.ntmps19 rfl ?_
  refine c_seq ?_
  refine c_region ?_
  refine seqq (o_box (T := 30) rfl (IsP.agg).cells rfl (fun b1 => ?_))
  refine seqq (o_y (y_assign rfl) rfl ?_)
  refine seqq (o_y (y_assign rfl) rfl ?_)
  refine c_nil ?_
  refine c_seq ?_
  refine c_region ?_
  refine seqq (o_y (lN Tryz.isAgg30 Tryz.sizeOf30 rfl (by rfl)) rfl ?_)
  refine seqq (o_new4 (X := Tr) (v := fun τ => .tuple #[.pointer (some ⟨τ.bt, 0, none⟩), vI 0]) (p := fun τ => τ.ok ∧ τ.s = newS r) (A := fun τ => [(τ.bt, obj 91 (trP τ))]) (B := fun τ => [(τ.bm, mObT τ.bs τ.L)]) (C := fun τ => [(τ.bc, chOb τ.bs τ.ch τ.sp)]) (A' := fun τ => ndSeg τ.bs τ.L) Tryz.call10 rfl rfl (fun w _ => tree_New2 r hc w) (fun τ hτ => ?_))
  obtain ⟨okτ, hsτ⟩ := hτ
  have hrr : τ.r = r := congrArg TS.r hsτ
  subst hrr
  refine seqq (o_y (y_move rfl) rfl ?_)
  refine seqq (o_y (y_extract rfl rfl) rfl ?_)
  refine seqq (o_y (y_extract rfl rfl) rfl ?_)
  refine seqq (o_y (y_assign rfl) rfl ?_)
  refine seqq (o_y (y_assign rfl) rfl ?_)
  refine c_nil ?_
  refine c_seq ?_
  refine c_seq ?_
  refine c_region ?_
  refine seqq (o_y (y_move rfl) rfl ?_)
  refine seqq (o_y (y_neqZ rfl rfl) rfl ?_)
  refine j_re 12 rfl (V.decNF rfl) ?_
  refine c_nil ?_
  refine c_condF rfl ?_
  refine c_skip ?_
  refine c_seq ?_
  refine c_region ?_
  refine seqq (o_y (lN Tryz.isAgg30 Tryz.sizeOf30 rfl (by rfl)) rfl ?_)
  refine seqq (o_y (y_move rfl) rfl ?_)
  refine seqq (o_y (y_build (zs := [P1 (vI 0), P1 (bv .u32 0#32), P1 (bv .u32 0#32), P1 (vI 0), P1 (bv .u32 0#32), zleaf .u8 8 32, zleaf .u8 8 32, P1 (bv .u32 0#32), P1 (bv .u32 0#32), P1 (bv .u32 0#32), P1 (.pointer none), P1 (vI 0)]) (pl := [(0, 72), (72, 1), (73, 1)]) Tryz.runUnderlying124 Tryz.zeroValue124 (by kernel_rfl) (fun w => by kernel_rfl) (.agg rfl (.one rfl rfl .nil)) (by rfl)) rfl ?_)
  refine seqq (o_box (T := 124) rfl (IsP.agg).cells rfl (fun b17 => ?_))
  refine j_obj b17 (ps' := reP τ.r τ.bt 0) rfl (by rfl) ?_
  refine seqq (o_y (y_assign rfl) rfl ?_)
  refine seqq (o_y (y_assign rfl) rfl ?_)
  refine c_nil ?_
  refine c_ret ?_
  refine c_done2 Tryz.results19 (.tmp rfl) (.tmp rfl) (fun w hS => ?_)
  exact ⟨_, ⟨(b17, τ), ⟨okτ, hsτ⟩, rfl, rfl⟩, hS.fin (N := [(b17, obj 124 (reP τ.r τ.bt 0))] :: treeM τ)⟩

theorem relay_New_bad (r : Rl) (hc : ¬ checkR r = 0) : Pure Tryz.prog 19 [vRl r] (.tuple #[.pointer none, vI (checkR r)]) := by
  intro w
  refine begin0 Tryz.func19 rfl Tryz.ntmps19 rfl ?_
  refine c_seq ?_
  refine c_region ?_
  refine seqq (o_box (T := 30) rfl (IsP.agg).cells rfl (fun b1 => ?_))
  refine seqq (o_y (y_assign rfl) rfl ?_)
  refine seqq (o_y (y_assign rfl) rfl ?_)
  refine c_nil ?_
  refine c_seq ?_
  refine c_region ?_
  refine seqq (o_y (lN Tryz.isAgg30 Tryz.sizeOf30 rfl (by rfl)) rfl ?_)
  refine seqq (o_pure Tryz.call10 rfl (tree_New_bad r hc) rfl ?_)
  refine seqq (o_y (y_move rfl) rfl ?_)
  refine seqq (o_y (y_extract rfl rfl) rfl ?_)
  refine seqq (o_y (y_extract rfl rfl) rfl ?_)
  refine seqq (o_y (y_assign rfl) rfl ?_)
  refine seqq (o_y (y_assign rfl) rfl ?_)
  refine c_nil ?_
  refine c_seq ?_
  refine c_seq ?_
  refine c_region ?_
  refine seqq (o_y (y_move rfl) rfl ?_)
  refine seqq (o_y (y_neqZ rfl rfl) rfl ?_)
  refine j_re 12 rfl (V.decNT hc) ?_
  refine c_nil ?_
  refine c_condT rfl ?_
  refine c_seq ?_
  refine c_region ?_
  refine seqq (o_y (y_move rfl) rfl ?_)
  refine seqq (o_y (y_assign rfl) rfl ?_)
  refine seqq (o_y (y_assign rfl) rfl ?_)
  refine c_nil ?_
  refine c_ret ?_
  refine c_done2 Tryz.results19 (.tmp rfl) (.tmp rfl) (fun w hS => ?_)
  exact ⟨rfl, hS.none⟩

theorem relay_Deepest (br : Nat) (deep : Int) (τ : Tr) : PureS Tryz.prog (Pts (relM br deep τ)) 29 [.pointer (some ⟨br, 0, none⟩)] (vI deep) := by
  intro w hw
  refine beginR Tryz.func29 rfl Tryz.ntmps29 rfl hw ?_
  refine c_seq ?_
  refine c_region ?_
  refine seqq (o_y (y_assign rfl) rfl ?_)
  refine c_nil ?_
  refine c_seq ?_
  refine c_seq ?_
  refine c_region ?_
  refine seqq (o_y (y_move rfl) rfl ?_)
  refine seqq (o_y (y_eqlNilPk (v := false) Tryz.runUnderlying60 rfl rfl rfl) rfl ?_)
  refine c_nil ?_
  refine c_condF rfl ?_
  refine c_skip ?_
  refine c_seq ?_
  refine c_region ?_
  refine seqq (o_y (y_move rfl) rfl ?_)
  refine seqq (o_y (y_nilCheck rfl) rfl ?_)
  refine seqq (o_y (y_fieldAddr Tryz.runUnderlying124 rfl Tryz.sizeOf3 rfl rfl) rfl ?_)
  refine seqq (o_y (l1 Tryz.isAgg3 rfl (by rfl)) rfl ?_)
  refine seqq (o_y (y_assign rfl) rfl ?_)
  refine c_nil ?_
  refine c_ret ?_
  refine c_done1 Tryz.results29 (.tmp rfl) (fun w hS => ?_)
  exact ⟨rfl, hS.none⟩

theorem relay_Tree (br : Nat) (deep : Int) (τ : Tr) : PureS Tryz.prog (Pts (relM br deep τ)) 22 [.pointer (some ⟨br, 0, none⟩)] (.pointer (some ⟨τ.bt, 0, none⟩)) := by
  intro w hw
  refine beginR Tryz.func22 rfl Tryz.ntmps22 rfl hw ?_
  refine c_seq ?_
  refine c_region ?_
  refine seqq (o_y (y_assign rfl) rfl ?_)
  refine c_nil ?_
  refine c_seq ?_
  refine c_seq ?_
  refine c_region ?_
  refine seqq (o_y (y_move rfl) rfl ?_)
  refine seqq (o_y (y_eqlNilPk (v := false) Tryz.runUnderlying60 rfl rfl rfl) rfl ?_)
  refine c_nil ?_
  refine c_condF rfl ?_
  refine c_skip ?_
  refine c_seq ?_
  refine c_region ?_
  refine seqq (o_y (y_move rfl) rfl ?_)
  refine seqq (o_y (y_nilCheck rfl) rfl ?_)
  refine seqq (o_y (y_fieldAddr Tryz.runUnderlying124 rfl Tryz.sizeOf32 rfl rfl) rfl ?_)
  refine seqq (o_y (l1 Tryz.isAgg32 rfl (by rfl)) rfl ?_)
  refine seqq (o_y (y_assign rfl) rfl ?_)
  refine c_nil ?_
  refine c_ret ?_
  refine c_done1 Tryz.results22 (.tmp rfl) (fun w hS => ?_)
  exact ⟨rfl, hS.none⟩

def depthT (s : TS) (h : H32) : Int :=
  if (findT s.L h).isSome = false then 0 else if (atT s.L s.ch (heightT s.L h)).2 = false then 0 else if (atT s.L s.ch (heightT s.L h)).1 = h then heightT s.L (bestH s) - heightT s.L h + 1 else 0
def confT (s : TS) (h : H32) : Int := if (findT s.L h).isSome = false then 12 else if depthT s h < s.r.confirm then 13 else 0

theorem relay_Depth (br : Nat) (deep : Int) (τ : Tr) (ok : τ.ok) (h : H32) : PureS Tryz.prog (Pts (relM br deep τ)) 26 [.pointer (some ⟨br, 0, none⟩), vH h] (vI (depthT τ.s h)) := by
  intro w hw
  have hb1 := heightT_bd ok.l h
  have hb2 := heightT_bd ok.l (bestH τ.s)
  refine beginR Tryz.func26 rfl Tryz.ntmps26 rfl hw ?_
  refine c_seq ?_
  refine c_region ?_
  refine seqq (o_box (T := 26) rfl (IsP.agg).cells rfl (fun b3 => ?_))
  refine seqq (o_y (y_assign rfl) rfl ?_)
  refine c_nil ?_
  refine c_seq ?_
  refine c_seq ?_
  refine c_region ?_
  refine seqq (o_y (y_move rfl) rfl ?_)
  refine seqq (o_y (y_eqlNilPk (v := false) Tryz.runUnderlying60 rfl rfl rfl) rfl ?_)
  refine c_nil ?_
  refine c_condF rfl ?_
  refine c_skip ?_
  refine c_seq ?_
  refine d_reg 9 mixed rfl ?_
  refine d_y (i := 0) (k' := 1) rfl (by kernel_rfl) (y_move rfl) rfl ?_
  refine d_y (i := 1) (k' := 3) rfl (by kernel_rfl) (y_nilCheck rfl) rfl ?_
  refine d_y (i := 2) (k' := 7) rfl (by kernel_rfl) (y_fieldAddr Tryz.runUnderlying124 rfl Tryz.sizeOf32 rfl rfl) rfl ?_
  refine d_s (i := 3) (k' := 15) rfl (by kernel_rfl) (by kernel_rfl) (l1 Tryz.isAgg32 rfl (by rfl)) hss rfl ?_
  refine d_s (i := 4) (k' := 31) rfl (by kernel_rfl) (by kernel_rfl) (lN Tryz.isAgg26 Tryz.sizeOf26 rfl (by rfl)) hss rfl ?_
  refine d_cS (i := 5) (k' := 63) rfl (by kernel_rfl) (by kernel_rfl) Tryz.call31 rfl (PureS.sub (tree_Height τ ok h)) hss rfl ?_
  refine d_y (i := 6) (k' := 127) rfl (by kernel_rfl) (y_move rfl) rfl ?_
  refine d_y (i := 7) (k' := 255) rfl (by kernel_rfl) (y_extract rfl rfl) rfl ?_
  refine d_y (i := 8) (k' := 511) rfl (by kernel_rfl) (y_extract rfl rfl) rfl ?_
  refine d_y (i := 9) (k' := 1023) rfl (by kernel_rfl) (y_assign rfl) rfl ?_
  refine d_y (i := 10) (k' := 2047) rfl (by kernel_rfl) (y_assign rfl) rfl ?_
  refine d_end (by kernel_rfl) ?_
  refine c_seq ?_
  refine c_seq ?_
  refine c_region ?_
  refine seqq (o_y (y_move rfl) rfl ?_)
  refine seqq (o_y (y_nilCheck rfl) rfl ?_)
  refine seqq (o_y (y_fieldAddr Tryz.runUnderlying124 rfl Tryz.sizeOf32 rfl rfl) rfl ?_)
  refine seqq (o_y (l1 Tryz.isAgg32 rfl (by rfl)) rfl ?_)
  refine seqq (o_y (y_move rfl) rfl ?_)
  refine seqq (o_pureS Tryz.call57 rfl (PureS.sub (tree_At τ ok (heightT τ.L h))) rfl ?_)
  refine seqq (o_y (y_move rfl) rfl ?_)
  refine seqq (o_y (y_extract rfl rfl) rfl ?_)
  refine seqq (o_y (y_extract rfl rfl) rfl ?_)
  refine seqq (o_alloc (ps := [hP h0]) Tryz.zeroValue26 (by kernel_rfl) rfl (fun b7 => ?_))
  refine seqq (stN Tryz.sizeOf26 rfl rfl (by rfl) rfl (by rfl) ?_)
  refine seqq (o_y (y_assign rfl) rfl ?_)
  refine c_nil ?_
  refine c_seq ?_
  refine c_region ?_
  refine seqq (o_y (y_move rfl) rfl ?_)
  refine seqq (o_y (y_not rfl) rfl ?_)
  refine seqq (o_y (y_move rfl) rfl ?_)
  refine j_bool 33 rfl (fun h33 => ?_) (fun h33 => ?_)
  ·
    refine seqq (guard_false (c := true) rfl rfl rfl rfl ?_)
    refine seqq (guard_false (c := true) rfl rfl rfl rfl ?_)
    refine seqq (o_y (y_pick_t rfl rfl) rfl ?_)
    refine seqq (o_y (y_move rfl) rfl ?_)
    refine seqq (guard_false (c := true) rfl rfl rfl rfl ?_)
    refine seqq (guard_false (c := true) rfl rfl rfl rfl ?_)
    refine seqq (guard_false (c := true) rfl rfl rfl rfl ?_)
    refine seqq (o_y (y_pick_t rfl rfl) rfl ?_)
    refine c_nil ?_
    refine c_condT rfl ?_
    refine c_seq ?_
    refine c_region ?_
    refine seqq (o_y (y_assign rfl) rfl ?_)
    refine c_nil ?_
    refine c_ret ?_
    refine c_done1 Tryz.results26 (.tmp rfl) (fun w hS => ?_)
    exact ⟨by rw [depthT, if_pos (show (findT τ.s.L h).isSome = false from nb_t h33)], hS.none⟩
  ·
    refine seqq (guard_true rfl rfl (o_y (y_move rfl) rfl ?_))
    refine seqq (guard_true rfl rfl (o_y (y_not rfl) rfl ?_))
    refine seqq (o_y (y_pick_f rfl rfl) rfl ?_)
    refine seqq (o_y (y_move rfl) rfl ?_)
    refine j_bool 37 rfl (fun h37 => ?_) (fun h37 => ?_)
    ·
      refine seqq (guard_false (c := true) rfl rfl rfl rfl ?_)
      refine seqq (guard_false (c := true) rfl rfl rfl rfl ?_)
      refine seqq (guard_false (c := true) rfl rfl rfl rfl ?_)
      refine seqq (o_y (y_pick_t rfl rfl) rfl ?_)
      refine c_nil ?_
      refine c_condT rfl ?_
      refine c_seq ?_
      refine c_region ?_
      refine seqq (o_y (y_assign rfl) rfl ?_)
      refine c_nil ?_
      refine c_ret ?_
      refine c_done1 Tryz.results26 (.tmp rfl) (fun w hS => ?_)
      exact ⟨by rw [depthT, if_neg (show ¬ (findT τ.s.L h).isSome = false from nb_f h33), if_pos (show (atT τ.s.L τ.s.ch (heightT τ.s.L h)).2 = false from nb_t h37)], hS.none⟩
    ·
      refine seqq (guard_true rfl rfl (o_y (lN Tryz.isAgg26 Tryz.sizeOf26 rfl (by rfl)) rfl ?_))
      refine seqq (guard_true rfl rfl (o_y (lN Tryz.isAgg26 Tryz.sizeOf26 rfl (by rfl)) rfl ?_))
      refine seqq (guard_true rfl rfl (o_y (y_neqH rfl rfl) rfl ?_))
      refine seqq (o_y (y_pick_f rfl rfl) rfl ?_)
      refine c_nil ?_
      refine c_ifn rfl (fun h41 => ?_) (fun h41 => ?_)
      ·
        refine c_seq ?_
        refine c_region ?_
        refine seqq (o_y (y_assign rfl) rfl ?_)
        refine c_nil ?_
        refine c_ret ?_
        refine c_done1 Tryz.results26 (.tmp rfl) (fun w hS => ?_)
        exact ⟨by rw [depthT, if_neg (show ¬ (findT τ.s.L h).isSome = false from nb_f h33), if_neg (show ¬ (atT τ.s.L τ.s.ch (heightT τ.s.L h)).2 = false from nb_f h37), if_neg (show ¬ (atT τ.s.L τ.s.ch (heightT τ.s.L h)).1 = h from h41)], hS.none⟩
      ·
        refine c_skip ?_
        refine c_seq ?_
        refine d_reg 13 mixed rfl ?_
        refine d_y (i := 0) (k' := 1) rfl (by kernel_rfl) (y_move rfl) rfl ?_
        refine d_y (i := 1) (k' := 3) rfl (by kernel_rfl) (y_nilCheck rfl) rfl ?_
        refine d_y (i := 2) (k' := 7) rfl (by kernel_rfl) (y_fieldAddr Tryz.runUnderlying124 rfl Tryz.sizeOf32 rfl rfl) rfl ?_
        refine d_s (i := 3) (k' := 15) rfl (by kernel_rfl) (by kernel_rfl) (l1 Tryz.isAgg32 rfl (by rfl)) hss rfl ?_
        refine d_y (i := 4) (k' := 31) rfl (by kernel_rfl) (y_move rfl) rfl ?_
        refine d_y (i := 5) (k' := 63) rfl (by kernel_rfl) (y_nilCheck rfl) rfl ?_
        refine d_y (i := 6) (k' := 127) rfl (by kernel_rfl) (y_fieldAddr Tryz.runUnderlying124 rfl Tryz.sizeOf32 rfl rfl) rfl ?_
        refine d_s (i := 7) (k' := 255) rfl (by kernel_rfl) (by kernel_rfl) (l1 Tryz.isAgg32 rfl (by rfl)) hss rfl ?_
        refine d_cS (i := 8) (k' := 511) rfl (by kernel_rfl) (by kernel_rfl) Tryz.call14 rfl (PureS.sub (tree_Best τ ok)) hss rfl ?_
        refine d_cS (i := 9) (k' := 1023) rfl (by kernel_rfl) (by kernel_rfl) Tryz.call31 rfl (PureS.sub (tree_Height τ ok (bestH τ.s))) hss rfl ?_
        refine d_y (i := 10) (k' := 2047) rfl (by kernel_rfl) (y_move rfl) rfl ?_
        refine d_y (i := 11) (k' := 4095) rfl (by kernel_rfl) (y_extract rfl rfl) rfl ?_
        refine d_y (i := 12) (k' := 8191) rfl (by kernel_rfl) (y_extract rfl rfl) rfl ?_
        refine d_y (i := 13) (k' := 16383) rfl (by kernel_rfl) (y_assign rfl) rfl ?_
        refine d_y (i := 14) (k' := 32767) rfl (by kernel_rfl) (y_assign rfl) rfl ?_
        refine d_end (by kernel_rfl) ?_
        refine c_seq ?_
        refine c_region ?_
        refine seqq (o_y (y_move rfl) rfl ?_)
        refine seqq (o_y (y_move rfl) rfl ?_)
        refine seqq (o_y (y_subI rfl rfl (by simp only [Tr.s] at *; omega)) rfl ?_)
        refine seqq (o_y (y_addI rfl rfl (by simp only [Tr.s] at *; omega)) rfl ?_)
        refine seqq (o_y (y_assign rfl) rfl ?_)
        refine c_nil ?_
        refine c_ret ?_
        refine c_done1 Tryz.results26 (.tmp rfl) (fun w hS => ?_)
        exact ⟨by rw [depthT, if_neg (show ¬ (findT τ.s.L h).isSome = false from nb_f h33), if_neg (show ¬ (atT τ.s.L τ.s.ch (heightT τ.s.L h)).2 = false from nb_f h37), if_pos (show (atT τ.s.L τ.s.ch (heightT τ.s.L h)).1 = h from h41)]; rfl, hS.none⟩

theorem relay_Confirmed (br : Nat) (deep : Int) (τ : Tr) (ok : τ.ok) (h : H32) : PureS Tryz.prog (Pts (relM br deep τ)) 30 [.pointer (some ⟨br, 0, none⟩), vH h] (vI (confT τ.s h)) := by
  intro w hw
  refine beginR Tryz.func30 rfl Tryz.ntmps30 rfl hw ?_
  refine c_seq ?_
  refine c_region ?_
  refine seqq (o_box (T := 26) rfl (IsP.agg).cells rfl (fun b3 => ?_))
  refine seqq (o_y (y_assign rfl) rfl ?_)
  refine c_nil ?_
  refine c_seq ?_
  refine c_seq ?_
  refine c_region ?_
  refine seqq (o_y (y_move rfl) rfl ?_)
  refine seqq (o_y (y_eqlNilPk (v := false) Tryz.runUnderlying60 rfl rfl rfl) rfl ?_)
  refine c_nil ?_
  refine c_condF rfl ?_
  refine c_skip ?_
  refine c_seq ?_
  refine c_seq ?_
  refine d_reg 9 mixed rfl ?_
  refine d_y (i := 0) (k' := 1) rfl (by kernel_rfl) (y_move rfl) rfl ?_
  refine d_y (i := 1) (k' := 3) rfl (by kernel_rfl) (y_nilCheck rfl) rfl ?_
  refine d_y (i := 2) (k' := 7) rfl (by kernel_rfl) (y_fieldAddr Tryz.runUnderlying124 rfl Tryz.sizeOf32 rfl rfl) rfl ?_
  refine d_s (i := 3) (k' := 15) rfl (by kernel_rfl) (by kernel_rfl) (l1 Tryz.isAgg32 rfl (by rfl)) hss rfl ?_
  refine d_s (i := 4) (k' := 31) rfl (by kernel_rfl) (by kernel_rfl) (lN Tryz.isAgg26 Tryz.sizeOf26 rfl (by rfl)) hss rfl ?_
  refine d_cS (i := 5) (k' := 63) rfl (by kernel_rfl) (by kernel_rfl) Tryz.call31 rfl (PureS.sub (tree_Height τ ok h)) hss rfl ?_
  refine d_y (i := 6) (k' := 127) rfl (by kernel_rfl) (y_move rfl) rfl ?_
  refine d_y (i := 7) (k' := 255) rfl (by kernel_rfl) (y_extract rfl rfl) rfl ?_
  refine d_y (i := 8) (k' := 511) rfl (by kernel_rfl) (y_extract rfl rfl) rfl ?_
  refine d_y (i := 9) (k' := 1023) rfl (by kernel_rfl) (y_assign rfl) rfl ?_
  refine d_y (i := 10) (k' := 2047) rfl (by kernel_rfl) (y_assign rfl) rfl ?_
  refine d_end (by kernel_rfl) ?_
  refine c_seq ?_
  refine c_region ?_
  refine seqq (o_y (y_move rfl) rfl ?_)
  refine seqq (o_y (y_not rfl) rfl ?_)
  refine c_nil ?_
  refine c_cond rfl (fun h19 => ?_) (fun h19 => ?_)
  ·
    refine c_seq ?_
    refine c_region ?_
    refine seqq (o_y (y_assign rfl) rfl ?_)
    refine c_nil ?_
    refine c_ret ?_
    refine c_done1 Tryz.results30 (.tmp rfl) (fun w hS => ?_)
    exact ⟨by rw [confT, if_pos (show (findT τ.s.L h).isSome = false from nb_t h19)], hS.none⟩
  ·
    refine c_skip ?_
    refine c_seq ?_
    refine c_seq ?_
    refine d_reg 9 mixed rfl ?_
    refine d_y (i := 0) (k' := 1) rfl (by kernel_rfl) (y_move rfl) rfl ?_
    refine d_s (i := 1) (k' := 3) rfl (by kernel_rfl) (by kernel_rfl) (lN Tryz.isAgg26 Tryz.sizeOf26 rfl (by rfl)) hss rfl ?_
    refine d_y (i := 3) (k' := 11) rfl (by kernel_rfl) (y_move rfl) rfl ?_
    refine d_y (i := 4) (k' := 27) rfl (by kernel_rfl) (y_nilCheck rfl) rfl ?_
    refine d_y (i := 5) (k' := 59) rfl (by kernel_rfl) (y_fieldAddr Tryz.runUnderlying124 rfl Tryz.sizeOf30 rfl rfl) rfl ?_
    refine d_y (i := 6) (k' := 123) rfl (by kernel_rfl) (y_fieldAddr Tryz.runUnderlying30 rfl Tryz.sizeOf3 rfl rfl) rfl ?_
    refine d_s (i := 7) (k' := 251) rfl (by kernel_rfl) (by kernel_rfl) (l1 Tryz.isAgg3 rfl (by rfl)) hss rfl ?_
    refine d_cS (i := 2) (k' := 255) rfl (by kernel_rfl) (by kernel_rfl) Tryz.call26 rfl (PureS.sub (relay_Depth br deep τ ok h)) hss rfl ?_
    refine d_y (i := 8) (k' := 511) rfl (by kernel_rfl) (y_lssZ rfl rfl) rfl ?_
    refine d_end (by kernel_rfl) ?_
    refine c_if rfl (fun h28 => ?_) (fun h28 => ?_)
    ·
      refine c_seq ?_
      refine c_region ?_
      refine seqq (o_y (y_assign rfl) rfl ?_)
      refine c_nil ?_
      refine c_ret ?_
      refine c_done1 Tryz.results30 (.tmp rfl) (fun w hS => ?_)
      exact ⟨by rw [confT, if_neg (show ¬ (findT τ.s.L h).isSome = false from nb_f h19), if_pos (show depthT τ.s h < τ.s.r.confirm from h28)], hS.none⟩
    ·
      refine c_skip ?_
      refine c_seq ?_
      refine c_region ?_
      refine seqq (o_y (y_assign rfl) rfl ?_)
      refine c_nil ?_
      refine c_ret ?_
      refine c_done1 Tryz.results30 (.tmp rfl) (fun w hS => ?_)
      exact ⟨by rw [confT, if_neg (show ¬ (findT τ.s.L h).isSome = false from nb_f h19), if_neg (show ¬ depthT τ.s h < τ.s.r.confirm from h28)], hS.none⟩

theorem relay_Submit (br : Nat) (deep : Int) (τ : Tr) (ok : τ.ok) (h : Hd) (bs : List (BitVec 8)) (hb : bs.length ≤ 1073741824) (hp : parseV bs = .tuple #[vHd h, vI 0]) (v : Value) (Rd : List Seg) (hv : ∀ w, Pts Rd w → SlIn w v (By bs)) (w : World) (hSt : St w (dom (relM br deep τ)) Rd (relM br deep τ) w) :
    Calls Tryz.prog 23 [.pointer (some ⟨br, 0, none⟩), v].toArray w (Ret fun u w' => ∃ x : Tr, ((x.at τ.bt).ok ∧ (x.at τ.bt).s = τ.s.add h) ∧ u = .tuple #[vagg (toldP (toldT τ.s h)), vI (τ.s.err h)] ∧ St w (dom (relM br deep τ)) [] (relM br (deepT τ.s deep h) (x.at τ.bt)) w') := by
  refine begin_ Tryz.func23 rfl Tryz.ntmps23 rfl hSt ?_
  refine c_seq ?_
  refine c_region ?_
  refine seqq (o_alloc (ps := [zleaf .u8 8 32, P1 (vI 0), P1 (.bool false), P1 (vI 0)]) Tryz.zeroValue67 (by kernel_rfl) rfl (fun b4 => ?_))
  refine seqq (o_y (y_assign rfl) rfl ?_)
  refine c_nil ?_
  refine c_seq ?_
  refine c_seq ?_
  refine c_region ?_
  refine seqq (o_y (y_move rfl) rfl ?_)
  refine seqq (o_y (y_eqlNilPk (v := false) Tryz.runUnderlying60 rfl rfl rfl) rfl ?_)
  refine c_nil ?_
  refine c_condF rfl ?_
  refine c_skip ?_
  refine c_seq ?_
  refine c_region ?_
  refine seqq (o_y (y_move rfl) rfl ?_)
  refine seqq (o_pureS Tryz.call63 rfl (PureS.to (fun w hw => hdr_Parse (hv w (fun p hq => hw p (by rw [List.flatten_append]; exact List.mem_append.2 (.inl hq)))) hb) hp) rfl ?_)
  refine seqq (o_y (y_move rfl) rfl ?_)
  refine seqq (o_y (y_extract rfl rfl) rfl ?_)
  refine seqq (o_y (y_extract rfl rfl) rfl ?_)
  refine seqq (o_alloc (ps := (hdP hd0)) Tryz.zeroValue28 (by kernel_rfl) rfl (fun b6 => ?_))
  refine seqq (stN Tryz.sizeOf28 rfl rfl (by rfl) rfl (by rfl) ?_)
  refine seqq (o_y (y_assign rfl) rfl ?_)
  refine c_nil ?_
  refine c_seq ?_
  refine c_seq ?_
  refine c_region ?_
  refine seqq (o_y (y_move rfl) rfl ?_)
  refine seqq (o_y (y_neqZ rfl rfl) rfl ?_)
  refine j_re 24 rfl (V.decNF rfl) ?_
  refine c_nil ?_
  refine c_condF rfl ?_
  refine c_skip ?_
  refine c_seq ?_
  refine c_region ?_
  refine seqq (o_y (y_move rfl) rfl ?_)
  refine seqq (o_y (y_nilCheck rfl) rfl ?_)
  refine seqq (o_y (y_fieldAddr Tryz.runUnderlying124 rfl Tryz.sizeOf32 rfl rfl) rfl ?_)
  refine seqq (o_y (l1 Tryz.isAgg32 rfl (by rfl)) rfl ?_)
  refine seqq (o_pureS Tryz.call14 rfl (PureS.sub (tree_Best τ ok)) rfl ?_)
  refine seqq (o_alloc (ps := [hP h0]) Tryz.zeroValue26 (by kernel_rfl) rfl (fun b8 => ?_))
  refine seqq (stN Tryz.sizeOf26 rfl rfl (by rfl) rfl (by rfl) ?_)
  refine c_nil ?_
  refine c_seq ?_
  refine c_seq ?_
  refine d_reg 5 mixed rfl ?_
  refine d_y (i := 0) (k' := 1) rfl (by kernel_rfl) (y_move rfl) rfl ?_
  refine d_y (i := 1) (k' := 3) rfl (by kernel_rfl) (y_nilCheck rfl) rfl ?_
  refine d_y (i := 2) (k' := 7) rfl (by kernel_rfl) (y_fieldAddr Tryz.runUnderlying124 rfl Tryz.sizeOf32 rfl rfl) rfl ?_
  refine d_s (i := 3) (k' := 15) rfl (by kernel_rfl) (by kernel_rfl) (l1 Tryz.isAgg32 rfl (by rfl)) hss rfl ?_
  refine d_s (i := 4) (k' := 31) rfl (by kernel_rfl) (by kernel_rfl) (lN Tryz.isAgg28 Tryz.sizeOf28 rfl (by rfl)) hss rfl ?_
  refine d_e (i := 5) (k' := 63) rfl (by kernel_rfl) (o_own4 (X := Tr) (v := fun _ => vI (τ.s.err h)) (p := fun x => (x.at τ.bt).ok ∧ (x.at τ.bt).s = τ.s.add h) (treeM τ) (A := fun x => [(τ.bt, obj 91 (trP (x.at τ.bt)))]) (B := fun x => [((x.at τ.bt).bm, mObT (x.at τ.bt).bs (x.at τ.bt).L)]) (C := fun x => [((x.at τ.bt).bc, chOb (x.at τ.bt).bs (x.at τ.bt).ch (x.at τ.bt).sp)]) (A' := fun x => ndSeg (x.at τ.bt).bs (x.at τ.bt).L) Tryz.call15 rfl rfl (fun w hw => (tree_Add2 τ ok h w hw.noR).mono (fun e w2 h => by obtain ⟨v, h1, x, h2, h3, h4⟩ := h; exact ⟨v, h1, x, h2, h3, h4⟩)) (fun x hx => d_past rfl ?_))
  obtain ⟨okx, hsx⟩ := hx
  have hb1 := heightT_bd okx.l (bestH τ.s)
  have hb2 := forkT_bd okx.l (bestH τ.s) (hashH h)
  have hL : (x.at τ.bt).L = (τ.s.add h).L := congrArg TS.L hsx
  have hrx : (x.at τ.bt).r = τ.r := (congrArg TS.r hsx).trans (add_r τ.s h)
  have hB : bestH (x.at τ.bt).s = bestH (τ.s.add h) := by rw [hsx]
  refine d_y (i := 6) (k' := 127) rfl (by kernel_rfl) (y_assign rfl) rfl ?_
  refine d_end (by kernel_rfl) ?_
  refine c_seq ?_
  refine c_region ?_
  refine seqq (o_y (y_move rfl) rfl ?_)
  refine seqq (o_y (y_neqZ rfl rfl) rfl ?_)
  refine c_nil ?_
  refine c_ifn rfl (fun h39 => ?_) (fun h39 => ?_)
  ·
    refine c_seq ?_
    refine c_region ?_
    refine seqq (o_y (y_build (zs := [zleaf .u8 8 32, P1 (vI 0), P1 (.bool false), P1 (vI 0)]) (pl := [(0, 32), (32, 1), (33, 1), (34, 1)]) Tryz.runUnderlying67 Tryz.zeroValue67 (by kernel_rfl) (fun w => by kernel_rfl) .nil (by rfl)) rfl ?_)
    refine seqq (o_y (y_move rfl) rfl ?_)
    refine seqq (stN Tryz.sizeOf67 rfl rfl (by rfl) rfl (by rfl) ?_)
    refine seqq (o_y (y_assign rfl) rfl ?_)
    refine c_nil ?_
    refine c_ret ?_
    refine c_done2 Tryz.results23 (rN Tryz.isAgg67 Tryz.sizeOf67 rfl (by rfl)) (.tmp rfl) (fun w hS => ?_)
    have e : ¬ τ.s.err h = 0 := h39
    exact ⟨x, ⟨okx, hsx⟩, by rw [toldT, if_neg e]; rfl, by rw [deepT, if_neg e, rel_eq hrx]; exact hS.fin (N := [(br, obj 124 (reP τ.r τ.bt deep))] :: treeM (x.at τ.bt))⟩
  ·
    refine c_skip ?_
    refine c_seq ?_
    refine c_region ?_
    refine seqq (o_y (lN Tryz.isAgg28 Tryz.sizeOf28 rfl (by rfl)) rfl ?_)
    refine seqq (o_pure Tryz.call27 rfl (hdr_Hash _) rfl ?_)
    refine seqq (o_y (y_build (zs := [zleaf .u8 8 32, P1 (vI 0), P1 (.bool false), P1 (vI 0)]) (pl := [(0, 32), (32, 1), (33, 1), (34, 1)]) Tryz.runUnderlying67 Tryz.zeroValue67 (by kernel_rfl) (fun w => by kernel_rfl) (.agg rfl .nil) (by rfl)) rfl ?_)
    refine seqq (o_alloc (ps := [zleaf .u8 8 32, P1 (vI 0), P1 (.bool false), P1 (vI 0)]) Tryz.zeroValue67 (by kernel_rfl) rfl (fun b10 => ?_))
    refine seqq (stN Tryz.sizeOf67 rfl rfl (by rfl) rfl (by rfl) ?_)
    refine c_nil ?_
    refine c_seq ?_
    refine d_reg 10 mixed rfl ?_
    refine d_y (i := 0) (k' := 1) rfl (by kernel_rfl) (y_move rfl) rfl ?_
    refine d_y (i := 1) (k' := 3) rfl (by kernel_rfl) (y_nilCheck rfl) rfl ?_
    refine d_y (i := 2) (k' := 7) rfl (by kernel_rfl) (y_fieldAddr Tryz.runUnderlying124 rfl Tryz.sizeOf32 rfl rfl) rfl ?_
    refine d_s (i := 3) (k' := 15) rfl (by kernel_rfl) (by kernel_rfl) (l1 Tryz.isAgg32 rfl (by rfl)) hss rfl ?_
    refine d_y (i := 4) (k' := 31) rfl (by kernel_rfl) (y_fieldAddr Tryz.runUnderlying67 rfl Tryz.sizeOf26 rfl rfl) rfl ?_
    refine d_s (i := 5) (k' := 63) rfl (by kernel_rfl) (by kernel_rfl) (lN Tryz.isAgg26 Tryz.sizeOf26 rfl (by rfl)) hss rfl ?_
    refine d_cS (i := 6) (k' := 127) rfl (by kernel_rfl) (by kernel_rfl) Tryz.call31 rfl (PureS.sub (tree_Height (x.at τ.bt) okx (hashH h))) hss rfl ?_
    refine d_y (i := 7) (k' := 255) rfl (by kernel_rfl) (y_move rfl) rfl ?_
    refine d_y (i := 8) (k' := 511) rfl (by kernel_rfl) (y_extract rfl rfl) rfl ?_
    refine d_y (i := 9) (k' := 1023) rfl (by kernel_rfl) (y_extract rfl rfl) rfl ?_
    refine d_y (i := 10) (k' := 2047) rfl (by kernel_rfl) (y_fieldAddr Tryz.runUnderlying67 rfl Tryz.sizeOf3 rfl rfl) rfl ?_
    refine d_e (i := 11) (k' := 4095) rfl (by kernel_rfl) (st1 (h1 := rfl) Tryz.sizeOf3 rfl rfl (by rfl) (by rfl) ( d_past rfl ?_))
    refine d_end (by kernel_rfl) ?_
    refine c_seq ?_
    refine c_seq ?_
    refine d_reg 8 mixed rfl ?_
    refine d_y (i := 0) (k' := 1) rfl (by kernel_rfl) (y_move rfl) rfl ?_
    refine d_y (i := 1) (k' := 3) rfl (by kernel_rfl) (y_nilCheck rfl) rfl ?_
    refine d_y (i := 2) (k' := 7) rfl (by kernel_rfl) (y_fieldAddr Tryz.runUnderlying124 rfl Tryz.sizeOf32 rfl rfl) rfl ?_
    refine d_s (i := 3) (k' := 15) rfl (by kernel_rfl) (by kernel_rfl) (l1 Tryz.isAgg32 rfl (by rfl)) hss rfl ?_
    refine d_y (i := 5) (k' := 47) rfl (by kernel_rfl) (y_fieldAddr Tryz.runUnderlying67 rfl Tryz.sizeOf26 rfl rfl) rfl ?_
    refine d_s (i := 6) (k' := 111) rfl (by kernel_rfl) (by kernel_rfl) (lN Tryz.isAgg26 Tryz.sizeOf26 rfl (by rfl)) hss rfl ?_
    refine d_cS (i := 4) (k' := 127) rfl (by kernel_rfl) (by kernel_rfl) Tryz.call14 rfl (PureS.sub (tree_Best (x.at τ.bt) okx)) hss rfl ?_
    refine d_y (i := 7) (k' := 255) rfl (by kernel_rfl) (y_eqH rfl rfl) rfl ?_
    refine d_y (i := 8) (k' := 511) rfl (by kernel_rfl) (y_fieldAddr Tryz.runUnderlying67 rfl Tryz.sizeOf4 rfl rfl) rfl ?_
    refine d_e (i := 9) (k' := 1023) rfl (by kernel_rfl) (st1 (h1 := rfl) Tryz.sizeOf4 rfl rfl (by rfl) (by rfl) ( d_past rfl ?_))
    refine d_end (by kernel_rfl) ?_
    refine c_seq ?_
    refine c_region ?_
    refine seqq (o_y (y_fieldAddr Tryz.runUnderlying67 rfl Tryz.sizeOf4 rfl rfl) rfl ?_)
    refine seqq (o_y (l1 Tryz.isAgg4 rfl (by rfl)) rfl ?_)
    refine c_nil ?_
    refine c_if rfl (fun h66 => ?_) (fun h66 => ?_)
    ·
      refine c_seq ?_
      refine d_reg 11 mixed rfl ?_
      refine d_y (i := 0) (k' := 1) rfl (by kernel_rfl) (y_move rfl) rfl ?_
      refine d_y (i := 1) (k' := 3) rfl (by kernel_rfl) (y_nilCheck rfl) rfl ?_
      refine d_y (i := 2) (k' := 7) rfl (by kernel_rfl) (y_fieldAddr Tryz.runUnderlying124 rfl Tryz.sizeOf32 rfl rfl) rfl ?_
      refine d_s (i := 3) (k' := 15) rfl (by kernel_rfl) (by kernel_rfl) (l1 Tryz.isAgg32 rfl (by rfl)) hss rfl ?_
      refine d_s (i := 4) (k' := 31) rfl (by kernel_rfl) (by kernel_rfl) (lN Tryz.isAgg26 Tryz.sizeOf26 rfl (by rfl)) hss rfl ?_
      refine d_y (i := 5) (k' := 63) rfl (by kernel_rfl) (y_fieldAddr Tryz.runUnderlying67 rfl Tryz.sizeOf26 rfl rfl) rfl ?_
      refine d_s (i := 6) (k' := 127) rfl (by kernel_rfl) (by kernel_rfl) (lN Tryz.isAgg26 Tryz.sizeOf26 rfl (by rfl)) hss rfl ?_
      refine d_cS (i := 7) (k' := 255) rfl (by kernel_rfl) (by kernel_rfl) Tryz.call59 rfl (PureS.sub (tree_Fork (x.at τ.bt) okx (bestH τ.s) (hashH h))) hss rfl ?_
      refine d_y (i := 8) (k' := 511) rfl (by kernel_rfl) (y_move rfl) rfl ?_
      refine d_y (i := 9) (k' := 1023) rfl (by kernel_rfl) (y_extract rfl rfl) rfl ?_
      refine d_y (i := 10) (k' := 2047) rfl (by kernel_rfl) (y_extract rfl rfl) rfl ?_
      refine d_y (i := 11) (k' := 4095) rfl (by kernel_rfl) (y_assign rfl) rfl ?_
      refine d_y (i := 12) (k' := 8191) rfl (by kernel_rfl) (y_assign rfl) rfl ?_
      refine d_end (by kernel_rfl) ?_
      refine c_seq ?_
      refine d_reg 9 mixed rfl ?_
      refine d_y (i := 0) (k' := 1) rfl (by kernel_rfl) (y_move rfl) rfl ?_
      refine d_y (i := 1) (k' := 3) rfl (by kernel_rfl) (y_nilCheck rfl) rfl ?_
      refine d_y (i := 2) (k' := 7) rfl (by kernel_rfl) (y_fieldAddr Tryz.runUnderlying124 rfl Tryz.sizeOf32 rfl rfl) rfl ?_
      refine d_s (i := 3) (k' := 15) rfl (by kernel_rfl) (by kernel_rfl) (l1 Tryz.isAgg32 rfl (by rfl)) hss rfl ?_
      refine d_s (i := 4) (k' := 31) rfl (by kernel_rfl) (by kernel_rfl) (lN Tryz.isAgg26 Tryz.sizeOf26 rfl (by rfl)) hss rfl ?_
      refine d_cS (i := 5) (k' := 63) rfl (by kernel_rfl) (by kernel_rfl) Tryz.call31 rfl (PureS.sub (tree_Height (x.at τ.bt) okx (bestH τ.s))) hss rfl ?_
      refine d_y (i := 6) (k' := 127) rfl (by kernel_rfl) (y_move rfl) rfl ?_
      refine d_y (i := 7) (k' := 255) rfl (by kernel_rfl) (y_extract rfl rfl) rfl ?_
      refine d_y (i := 8) (k' := 511) rfl (by kernel_rfl) (y_extract rfl rfl) rfl ?_
      refine d_y (i := 9) (k' := 1023) rfl (by kernel_rfl) (y_assign rfl) rfl ?_
      refine d_y (i := 10) (k' := 2047) rfl (by kernel_rfl) (y_assign rfl) rfl ?_
      refine d_end (by kernel_rfl) ?_
      refine c_region ?_
      refine seqq (o_y (y_move rfl) rfl ?_)
      refine seqq (o_y (y_move rfl) rfl ?_)
      refine seqq (o_y (y_subI rfl rfl (by omega)) rfl ?_)
      refine seqq (o_y (y_fieldAddr Tryz.runUnderlying67 rfl Tryz.sizeOf3 rfl rfl) rfl ?_)
      refine seqq (st1 (h1 := rfl) Tryz.sizeOf3 rfl rfl (by rfl) (by rfl) ?_)
      refine c_nil ?_
      refine c_seq ?_
      refine d_reg 7 mixed rfl ?_
      refine d_y (i := 0) (k' := 1) rfl (by kernel_rfl) (y_move rfl) rfl ?_
      refine d_y (i := 1) (k' := 3) rfl (by kernel_rfl) (y_move rfl) rfl ?_
      refine d_y (i := 2) (k' := 7) rfl (by kernel_rfl) (y_nilCheck rfl) rfl ?_
      refine d_y (i := 3) (k' := 15) rfl (by kernel_rfl) (y_fieldAddr Tryz.runUnderlying124 rfl Tryz.sizeOf3 rfl rfl) rfl ?_
      refine d_s (i := 4) (k' := 31) rfl (by kernel_rfl) (by kernel_rfl) (l1 Tryz.isAgg3 rfl (by rfl)) hss rfl ?_
      refine d_y (i := 5) (k' := 63) rfl (by kernel_rfl) (y_fieldAddr Tryz.runUnderlying67 rfl Tryz.sizeOf3 rfl rfl) rfl ?_
      refine d_s (i := 6) (k' := 127) rfl (by kernel_rfl) (by kernel_rfl) (l1 Tryz.isAgg3 rfl (by rfl)) hss rfl ?_
      refine d_y (i := 7) (k' := 255) rfl (by kernel_rfl) (y_maxI rfl rfl) rfl ?_
      refine d_y (i := 8) (k' := 511) rfl (by kernel_rfl) (y_nilCheck rfl) rfl ?_
      refine d_y (i := 9) (k' := 1023) rfl (by kernel_rfl) (y_fieldAddr Tryz.runUnderlying124 rfl Tryz.sizeOf3 rfl rfl) rfl ?_
      refine d_e (i := 10) (k' := 2047) rfl (by kernel_rfl) (st1 (h1 := rfl) Tryz.sizeOf3 rfl rfl (by rfl) (by rfl) ( d_past rfl ?_))
      refine d_end (by kernel_rfl) ?_
      refine c_seq ?_
      refine c_region ?_
      refine seqq (o_y (lN Tryz.isAgg67 Tryz.sizeOf67 rfl (by rfl)) rfl ?_)
      refine j_obj br (ps' := reP τ.r τ.bt (if deep < (heightT (x.at τ.bt).L (bestH τ.s) - (forkT (x.at τ.bt).L (bestH τ.s) (hashH h)).1) then (heightT (x.at τ.bt).L (bestH τ.s) - (forkT (x.at τ.bt).L (bestH τ.s) (hashH h)).1) else deep)) rfl (by rfl) ?_
      refine seqq (stN Tryz.sizeOf67 rfl rfl (by rfl) rfl (by rfl) ?_)
      refine seqq (o_y (y_assign rfl) rfl ?_)
      refine c_nil ?_
      refine c_ret ?_
      refine c_done2 Tryz.results23 (rN Tryz.isAgg67 Tryz.sizeOf67 rfl (by rfl)) (.tmp rfl) (fun w hS => ?_)
      have e : τ.s.err h = 0 := h39
      have e2 : turnedT τ.s h = heightT (x.at τ.bt).L (bestH τ.s) - (forkT (x.at τ.bt).L (bestH τ.s) (hashH h)).1 := by rw [turnedT, ← hB, ← hL, if_pos (show bestH (x.at τ.bt).s = hashH h from h66)]
      exact ⟨x, ⟨okx, hsx⟩, by rw [toldT, if_pos e, e2, ← hL, ← hB, e]; rfl, by rw [deepT, if_pos e, e2, rel_eq hrx]; exact hS.fin (N := [(br, obj 124 (reP τ.r τ.bt _))] :: treeM (x.at τ.bt))⟩
    ·
      refine c_skip ?_
      refine c_seq ?_
      refine d_reg 7 mixed rfl ?_
      refine d_y (i := 0) (k' := 1) rfl (by kernel_rfl) (y_move rfl) rfl ?_
      refine d_y (i := 1) (k' := 3) rfl (by kernel_rfl) (y_move rfl) rfl ?_
      refine d_y (i := 2) (k' := 7) rfl (by kernel_rfl) (y_nilCheck rfl) rfl ?_
      refine d_y (i := 3) (k' := 15) rfl (by kernel_rfl) (y_fieldAddr Tryz.runUnderlying124 rfl Tryz.sizeOf3 rfl rfl) rfl ?_
      refine d_s (i := 4) (k' := 31) rfl (by kernel_rfl) (by kernel_rfl) (l1 Tryz.isAgg3 rfl (by rfl)) hss rfl ?_
      refine d_y (i := 5) (k' := 63) rfl (by kernel_rfl) (y_fieldAddr Tryz.runUnderlying67 rfl Tryz.sizeOf3 rfl rfl) rfl ?_
      refine d_s (i := 6) (k' := 127) rfl (by kernel_rfl) (by kernel_rfl) (l1 Tryz.isAgg3 rfl (by rfl)) hss rfl ?_
      refine d_y (i := 7) (k' := 255) rfl (by kernel_rfl) (y_maxI rfl rfl) rfl ?_
      refine d_y (i := 8) (k' := 511) rfl (by kernel_rfl) (y_nilCheck rfl) rfl ?_
      refine d_y (i := 9) (k' := 1023) rfl (by kernel_rfl) (y_fieldAddr Tryz.runUnderlying124 rfl Tryz.sizeOf3 rfl rfl) rfl ?_
      refine d_e (i := 10) (k' := 2047) rfl (by kernel_rfl) (st1 (h1 := rfl) Tryz.sizeOf3 rfl rfl (by rfl) (by rfl) ( d_past rfl ?_))
      refine d_end (by kernel_rfl) ?_
      refine c_seq ?_
      refine c_region ?_
      refine seqq (o_y (lN Tryz.isAgg67 Tryz.sizeOf67 rfl (by rfl)) rfl ?_)
      refine j_obj br (ps' := reP τ.r τ.bt (if deep < 0 then 0 else deep)) rfl (by rfl) ?_
      refine seqq (stN Tryz.sizeOf67 rfl rfl (by rfl) rfl (by rfl) ?_)
      refine seqq (o_y (y_assign rfl) rfl ?_)
      refine c_nil ?_
      refine c_ret ?_
      refine c_done2 Tryz.results23 (rN Tryz.isAgg67 Tryz.sizeOf67 rfl (by rfl)) (.tmp rfl) (fun w hS => ?_)
      have e : τ.s.err h = 0 := h39
      have e2 : turnedT τ.s h = 0 := by rw [turnedT, ← hB, if_neg (show ¬ bestH (x.at τ.bt).s = hashH h from h66)]
      exact ⟨x, ⟨okx, hsx⟩, by rw [toldT, if_pos e, e2, ← hL, ← hB, e]; rfl, by rw [deepT, if_pos e, e2, rel_eq hrx]; exact hS.fin (N := [(br, obj 124 (reP τ.r τ.bt _))] :: treeM (x.at τ.bt))⟩
