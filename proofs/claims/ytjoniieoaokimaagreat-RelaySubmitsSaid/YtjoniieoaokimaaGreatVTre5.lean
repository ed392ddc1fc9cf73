/- Walks and laws of this claim, part Tre5. -/
import Derived.Test.YtjoniieoaokimaaGreatVTre4
set_option linter.unusedVariables false
set_option linter.unusedSimpArgs false
set_option linter.unusedSectionVars false
set_option autoImplicit true
set_option relaxedAutoImplicit true
set_option maxRecDepth 100000
set_option maxHeartbeats 1000000
namespace Go.Proofs
open V
/-! ### a block more -/
def incK (x : Nd) : Nd := ⟨x.h, x.ahead, x.height, x.work, x.kids + 1⟩
def bumpK : List Nd → Nat → List Nd
  | [], _ => []
  | x :: L, 0 => incK x :: L
  | x :: L, i + 1 => x :: bumpK L i
theorem bumpK_len : ∀ (L : List Nd) (i : Nat), (bumpK L i).length = L.length
  | [], _ => rfl
  | _ :: _, 0 => rfl
  | _ :: L, i + 1 => by simp [bumpK, bumpK_len L i]
theorem nd_bump : ∀ (L : List Nd) (i j : Nat), i < L.length → nd (bumpK L i) j = if j = i then incK (nd L j) else nd L j
  | [], _, _, h => by simp at h
  | x :: L, 0, 0, _ => rfl
  | x :: L, 0, j + 1, _ => by simp [bumpK, nd]
  | x :: L, i + 1, 0, _ => by simp [bumpK, nd]
  | x :: L, i + 1, j + 1, h => by
    have := nd_bump L i j (by simpa using h)
    simp only [bumpK, nd, List.getD_cons_succ] at this ⊢
    rw [this]
    simp
theorem nds_split (bs : List Nat) : ∀ (L : List Nd) (k i : Nat), i < L.length → ∃ A B, ndsFrom bs k L = A ++ (bs.getD (k + i) 0, obj 86 (ndP bs (nd L i))) :: B ∧ ndsFrom bs k (bumpK L i) = A ++ (bs.getD (k + i) 0, obj 86 (ndP bs (incK (nd L i)))) :: B
  | [], _, _, h => by simp at h
  | x :: L, k, 0, _ => ⟨[], ndsFrom bs (k + 1) L, rfl, rfl⟩
  | x :: L, k, i + 1, h => by
    obtain ⟨A, B, h1, h2⟩ := nds_split bs L (k + 1) i (by simpa using h)
    refine ⟨(bs.getD k 0, obj 86 (ndP bs x)) :: A, B, ?_, ?_⟩
    · rw [ndsFrom, h1, show k + 1 + i = k + (i + 1) from by omega]; rfl
    · rw [bumpK, ndsFrom, h2, show k + 1 + i = k + (i + 1) from by omega]; rfl
theorem o_kids {Q : Exit → Act → World → Prop} {K : Act → World → Prop} {ops : Array Oper} {n : Nat} {D : List Deferred} {E : Env} {σ : Bs} {M F : List Seg} {x y : Operand} {ty : TypeId} {pos : String} {after : Array Edge} {bs : List Nat} {L : List Nd} (i : Nat) (hi : i < L.length)
    (hx : val E x = some (.pointer (some ⟨bs.getD i 0, 106, none⟩))) (hy : val E y = some (vI ((nd L i).kids + 1 : Nat))) [hT : TakeC (ndSeg bs L) M F]
    (h : J n D E σ (ndSeg bs (bumpK L i) :: F) K) : J n D E σ M (Op1 Tryz.prog ops Q ⟨none, .store 3 x y, ty, pos, after, none⟩ K) := by
  obtain ⟨A, B, h1, h2⟩ := nds_split bs L 0 i hi
  rw [Nat.zero_add] at h1 h2
  have hu : Upd (bs.getD i 0) (obj 86 (ndP bs (nd L i))) (obj 86 (ndP bs (incK (nd L i)))) (ndSeg bs L :: F) (ndSeg bs (bumpK L i) :: F) := by
    rw [ndSeg, ndSeg, h1, h2]; exact Upd.at_
  have := o_store (P := Tryz.prog) (ops := ops) (Q := Q) (σ := σ) (ty := ty) (pos := pos) (after := after) (T := 3) (off := 106) Tryz.sizeOf3 hx hy (.one rfl) hu (by rfl) rfl h
  exact fun a w hA hS => this a w hA (hS.perm hT.take.perm)
theorem mapFrom_bump (bs : List Nat) : ∀ (L : List Nd) (k i : Nat), mapFrom bs k (bumpK L i) = mapFrom bs k L
  | [], _, _ => rfl
  | _ :: _, _, 0 => rfl
  | x :: L, k, i + 1 => by simp only [bumpK, mapFrom, mapFrom_bump bs L]
theorem mObT_bump (bs : List Nat) (L : List Nd) (i : Nat) : mObT bs (bumpK L i) = mObT bs L := by rw [mObT, mObT, mapL, mapFrom_bump, bumpK_len]; rfl
theorem findF_bump (k : H32) : ∀ (L : List Nd) (i j : Nat), findF k (bumpK L i) j = findF k L j
  | [], _, _ => rfl
  | _ :: _, 0, _ => rfl
  | x :: L, i + 1, j => by simp only [bumpK, findF, findF_bump k L]
def newNd (L : List Nd) (h : Hd) (i : Nat) : Nd := ⟨h, some i, (nd L i).height + 1, ((nd L i).work + workN h) % M256, 0⟩
def addL (L : List Nd) (h : Hd) (i : Nat) : List Nd := bumpK L i ++ [newNd L h i]
theorem addL_len (L : List Nd) (h : Hd) (i : Nat) : (addL L h i).length = L.length + 1 := by simp [addL, bumpK_len]
theorem nd_add_lt {L : List Nd} {h : Hd} {i j : Nat} (hi : i < L.length) (hj : j < L.length) : nd (addL L h i) j = if j = i then incK (nd L j) else nd L j := by
  rw [← nd_bump L i j hi, addL, nd, nd, List.getD, List.getD, List.getElem?_append_left (by rw [bumpK_len]; exact hj)]
theorem nd_add_new {L : List Nd} {h : Hd} {i : Nat} : nd (addL L h i) L.length = newNd L h i := by
  rw [addL, nd, List.getD, List.getElem?_append_right (by rw [bumpK_len]; exact Nat.le_refl _), bumpK_len, Nat.sub_self]; rfl
theorem nd_out {L : List Nd} {j : Nat} (hj : L.length ≤ j) : nd L j = nd0 := by rw [nd, List.getD, List.getElem?_eq_none hj]; rfl
theorem nd_add_h {L : List Nd} {h : Hd} {i j : Nat} (hi : i < L.length) (hj : j < L.length) : (nd (addL L h i) j).h = (nd L j).h := by
  rw [nd_add_lt hi hj]; split <;> rfl
theorem nd_add_ahead {L : List Nd} {h : Hd} {i j : Nat} (hi : i < L.length) (hj : j < L.length) : (nd (addL L h i) j).ahead = (nd L j).ahead := by
  rw [nd_add_lt hi hj]; split <;> rfl
theorem nd_add_height {L : List Nd} {h : Hd} {i j : Nat} (hi : i < L.length) (hj : j < L.length) : (nd (addL L h i) j).height = (nd L j).height := by
  rw [nd_add_lt hi hj]; split <;> rfl
theorem nd_add_work {L : List Nd} {h : Hd} {i j : Nat} (hi : i < L.length) (hj : j < L.length) : (nd (addL L h i) j).work = (nd L j).work := by
  rw [nd_add_lt hi hj]; split <;> rfl
theorem addL_ok {L : List Nd} (ok : LOk L) (h : Hd) {i : Nat} (hi : i < L.length) (hb : L.length < 4096) : LOk (addL L h i) where
  pos := by rw [addL_len]; omega
  root := ⟨by rw [nd_add_ahead hi ok.pos]; exact ok.root.1, by rw [nd_add_height hi ok.pos]; exact ok.root.2⟩
  step j h0 hj := by
    rw [addL_len] at hj
    by_cases hjl : j < L.length
    · obtain ⟨q, h1, h2, h3⟩ := ok.step j h0 hjl
      exact ⟨q, by rw [nd_add_ahead hi hjl]; exact h1, h2, by rw [nd_add_height hi hjl, nd_add_height hi (by omega)]; exact h3⟩
    · have : j = L.length := by omega
      subst this
      rw [nd_add_new]
      exact ⟨i, rfl, hi, by rw [nd_add_height hi hi]; rfl⟩
  work j := by
    by_cases hjl : j < L.length
    · rw [nd_add_work hi hjl]; exact ok.work j
    · by_cases hj : j = L.length
      · subst hj; rw [nd_add_new]; exact Nat.mod_lt _ (by decide)
      · rw [nd_out (by rw [addL_len]; omega)]; decide
  kids j := by
    rw [addL_len]
    by_cases hjl : j < L.length
    · rw [nd_add_lt hi hjl]
      have := ok.kids j
      split
      · simp only [incK]; omega
      · omega
    · by_cases hj : j = L.length
      · subst hj; rw [nd_add_new]; exact Nat.zero_le _
      · rw [nd_out (by rw [addL_len]; omega)]; exact Nat.zero_le _
  big := by rw [addL_len]; omega
theorem addCh_ok {L : List Nd} {ch : List Nat} (c : ChOk L ch) (h : Hd) {i : Nat} (hi : i < L.length) : ChOk (addL L h i) ch where
  ne := c.ne
  lt k hk := by rw [addL_len]; have := c.lt k hk; omega
  ht k hk := by rw [nd_add_height hi (c.lt k hk)]; exact c.ht k hk
  step k hk := by rw [nd_add_ahead hi (c.lt (k + 1) hk)]; exact c.step k hk
/-! ### a tree, apart from its memory -/
structure TS where
  r : Rl
  L : List Nd
  ch : List Nat
  tips : Nat
def Tr.s (τ : Tr) : TS := ⟨τ.r, τ.L, τ.ch, τ.tips⟩
def TS.err (s : TS) (h : Hd) : Int := match findT s.L (hashH h) with
  | some _ => 9
  | none => match findT s.L h.ahead with
    | none => 8
    | some i => checkT s.r s.L s.tips h i
def tipsA (L : List Nd) (tips i : Nat) : Nat := if (0 : Int) < ((nd L i).kids : Int) then tips + 1 else tips
def TS.put (s : TS) (h : Hd) (i : Nat) : TS :=
  ⟨s.r, addL s.L h i, if (nd s.L (bestI s.ch)).work < (newNd s.L h i).work then lineI (addL s.L h i) s.L.length else s.ch, tipsA s.L s.tips i⟩
def TS.add (s : TS) (h : Hd) : TS := if s.err h = 0 then s.put h ((findT s.L h.ahead).getD 0) else s
theorem check_big {r : Rl} {L : List Nd} {tips : Nat} {h : Hd} {i : Nat} (hc : checkT r L tips h i = 0) : L.length < 4096 := by
  unfold checkT at hc
  split at hc; · cases hc
  split at hc; · cases hc
  split at hc; · rename_i h1; exact absurd hc h1
  split at hc; · cases hc
  split at hc; · cases hc
  omega
/-- .. with the new block, before the best chain is turned -/
abbrev Tr.add1 (τ : Tr) (h : Hd) (i b : Nat) : Tr := { τ with bs := τ.bs ++ [b], L := addL τ.L h i, tips := tipsA τ.L τ.tips i }
theorem ndsFrom_app (bs : List Nat) (b : Nat) (x : Nd) : ∀ (L : List Nd) (k : Nat), k + L.length = bs.length → (∀ j q, j < L.length → (nd L j).ahead = some q → q < bs.length) → ndsFrom (bs ++ [b]) k (L ++ [x]) = ndsFrom bs k L ++ [(b, obj 86 (ndP (bs ++ [b]) x))]
  | [], k, h, _ => by
    have : k = bs.length := by simpa using h
    subst this
    simp only [List.nil_append, ndsFrom, getD_app']
  | y :: L, k, h, ha => by
    simp only [List.length_cons] at h
    simp only [List.cons_append, ndsFrom]
    rw [getD_app (by omega), ndsFrom_app bs b x L (k + 1) (by omega) (fun j q hj hq => ha (j + 1) q (by simpa using hj) hq)]
    have : ndP (bs ++ [b]) y = ndP bs y := by
      unfold ndP
      have : ptrI (bs ++ [b]) y.ahead = ptrI bs y.ahead := by
        cases hq : y.ahead with
        | none => rfl
        | some q => simp only [ptrI, ptrA, Option.map_some]; rw [getD_app (ha 0 q (by simp) hq)]
      simp only [this]
    rw [this]
theorem j_ndApp {K : Act → World → Prop} {n : Nat} {D : List Deferred} {E : Env} {σ : Bs} {M F1 F2 : List Seg} {bs : List Nat} {L1 : List Nd} (b : Nat) (x : Nd) {ps : List Part} (hps : ps = ndP (bs ++ [b]) x) (hl : bs.length = L1.length) (ha : ∀ j q, j < L1.length → (nd L1 j).ahead = some q → q < bs.length)
    [hT : TakeC (ndSeg bs L1) M F1] [hT' : TakeC [(b, obj 86 ps)] F1 F2] (h : J n D E σ (ndSeg (bs ++ [b]) (L1 ++ [x]) :: F2) K) : J n D E σ M K := by
  subst hps
  intro a w hA hS
  refine h a w hA (hS.perm (hT.take.perm.trans ?_))
  rw [ndSeg, ndSeg, ndsFrom_app bs b x L1 0 (by omega) ha]
  simp only [List.flatten_cons, List.append_assoc]
  exact List.Perm.append_left _ (by simpa using hT'.take.perm)
theorem bump_ahead {L : List Nd} (ok : LOk L) {bs : List Nat} (hl : bs.length = L.length) {i : Nat} (hi : i < L.length) : ∀ j q, j < (bumpK L i).length → (nd (bumpK L i) j).ahead = some q → q < bs.length := by
  intro j q hj hq
  rw [bumpK_len] at hj
  have : (nd (bumpK L i) j).ahead = (nd L j).ahead := by rw [nd_bump L i j hi]; split <;> rfl
  rw [this] at hq
  have := (ahead_lt ok hj hq).1
  omega
theorem chOb_app {L : List Nd} {ch : List Nat} (c : ChOk L ch) {bs : List Nat} (hl : bs.length = L.length) (b : Nat) (sp : List Value) : chOb bs ch sp = chOb (bs ++ [b]) ch sp := by
  have : chV bs ch = chV (bs ++ [b]) ch := by
    simp only [chV]
    apply List.map_congr_left
    intro i hi
    obtain ⟨k, hk, rfl⟩ := List.getElem_of_mem hi
    have := c.lt k hk
    simp only [List.getD, List.getElem?_eq_getElem hk, Option.getD_some] at this
    simp only [ptrI, ptrA, Option.map_some]; rw [getD_app (by omega)]
  rw [chOb, this]; rfl
theorem nds_dom (bs : List Nat) : ∀ (L : List Nd) (k : Nat), (ndsFrom bs k L).map Prod.fst = (List.range' k L.length).map fun i => bs.getD i 0
  | [], _ => rfl
  | x :: L, k => by simp only [ndsFrom, List.map_cons, nds_dom bs L (k + 1), List.length_cons, List.range'_succ]
theorem bs_nodup {bs : List Nat} {L : List Nd} (hl : bs.length = L.length) (h : ((ndSeg bs L).map Prod.fst).Nodup) : bs.Nodup := by
  rw [ndSeg, nds_dom, ← hl] at h
  have : (List.range' 0 bs.length).map (fun i => bs.getD i 0) = bs := by
    apply List.ext_getElem
    · simp
    · intro i h1 h2; simp [List.getD, List.getElem?_eq_getElem h2]
  rwa [this] at h

theorem add1_ok {τ : Tr} (ok : τ.ok) (h : Hd) {i : Nat} (hi : i < τ.L.length) (hb : τ.L.length < 4096) {b : Nat} (hnd : (τ.bs ++ [b]).Nodup) : (τ.add1 h i b).ok where
  l := addL_ok ok.l h hi hb
  c := addCh_ok ok.c h hi
  bs := by simp [Tr.add1, addL_len, ok.bs]
  cap := by
    have := ok.cap
    simp only [List.length_append, chV_len] at this ⊢
    exact this
  tips := by
    have := ok.tips
    simp only [Tr.add1, addL_len, tipsA]
    split <;> omega
  nd := hnd
theorem turn_ok {τ : Tr} (ok : τ.ok) {i : Nat} (hi : i < τ.L.length) {x : Nat × Nat × List Value} (hx : (chV τ.bs (lineI τ.L i) ++ x.2.2).length = x.2.1) : (τ.turn x (lineI τ.L i)).ok where
  l := ok.l
  c := (line_ok ok.l i hi).1
  bs := ok.bs
  cap := hx
  tips := ok.tips
  nd := ok.nd
theorem put_turn {s : TS} {h : Hd} {i : Nat} (hw : (nd s.L (bestI s.ch)).work < (newNd s.L h i).work) : s.put h i = ⟨s.r, addL s.L h i, lineI (addL s.L h i) s.L.length, tipsA s.L s.tips i⟩ := by rw [TS.put, if_pos hw]
theorem put_stay {s : TS} {h : Hd} {i : Nat} (hw : ¬ (nd s.L (bestI s.ch)).work < (newNd s.L h i).work) : s.put h i = ⟨s.r, addL s.L h i, s.ch, tipsA s.L s.tips i⟩ := by rw [TS.put, if_neg hw]
theorem cmp_pos {n m : Nat} : (0 : Int) < (if n < m then -1 else if m < n then 1 else 0) ↔ m < n := by split <;> (try split) <;> omega
theorem add_bad {s : TS} {h : Hd} (he : ¬ s.err h = 0) : s.add h = s := if_neg he
theorem add_good {s : TS} {h : Hd} {i : Nat} (he : s.err h = 0) (hi : findT s.L h.ahead = some i) : s.add h = s.put h i := by rw [TS.add, if_pos he, hi]; rfl
theorem better {L : List Nd} {h : Hd} {i j : Nat} (hi : i < L.length) (hj : j < L.length) : ((0 : Int) < (if (nd (addL L h i) L.length).work < (nd (addL L h i) j).work then -1 else if (nd (addL L h i) j).work < (nd (addL L h i) L.length).work then 1 else 0)) ↔ (nd L j).work < (newNd L h i).work := by
  rw [cmp_pos, nd_add_new, nd_add_work hi hj]
def AddR (τ : Tr) (h : Hd) (τ' : Tr) : Prop := τ'.ok ∧ τ'.bt = τ.bt ∧ τ'.s = τ.s.add h
theorem new_ps {bs : List Nat} {L : List Nd} {h : Hd} {i b : Nat} (hi : i < bs.length) : [P1 (bv .u32 h.ver) rfl, hP h.ahead, hP h.root, P1 (bv .u32 h.time) rfl, P1 (bv .u32 h.bits) rfl, P1 (bv .u32 h.nonce) rfl, hP (hashH h), P1 (ptrI bs (some i)) rfl, P1 (vI ((nd L i).height + 1)) rfl,
   P1 (bv .u64 (nw (((nd L i).work + workN h) % M256) 0)) rfl, P1 (bv .u64 (nw (((nd L i).work + workN h) % M256) 1)) rfl, P1 (bv .u64 (nw (((nd L i).work + workN h) % M256) 2)) rfl, P1 (bv .u64 (nw (((nd L i).work + workN h) % M256) 3)) rfl, P1 (vI 0) rfl] = ndP (bs ++ [b]) (newNd L h i) := by
  have e : ptrI bs (some i) = ptrI (bs ++ [b]) (some i) := by simp only [ptrI, ptrA, Option.map_some]; rw [getD_app hi]
  simp only [e]
  rfl
theorem j_fact {K : Act → World → Prop} {n : Nat} {D : List Deferred} {E : Env} {σ : Bs} {M : List Seg} {p : Prop} (hp : ∀ w, St σ.w0 σ.B0 σ.R M w → p) (h : p → J n D E σ M K) : J n D E σ M K := fun a w hA hS => h (hp w hS) a w hA hS
theorem o_own4 {P : Program} {ops : Array Oper} {Q : Exit → Act → World → Prop} {K : Act → World → Prop} {n : Nat} {D : List Deferred} {E : Env} {σ : Bs} {M : List Seg} {ty : TypeId} {pos : String} {after : Array Edge} {f : FuncId} {xs : List Operand} {vs : List Value} {tys : Array TypeId} {t : Nat} (L : List Seg) {F : List Seg} {X : Type} {v : X → Value} {A B C A' : X → Seg} {p : X → Prop}
    (hf : ∀ args w, (callFunc f args).run P w = .ok (.enter f args) w) (hxs : vals E xs = some vs) (ht : Nat.blt t n = true) [hL : TakesC L M F]
    (hc : ∀ w, St w (dom L) (σ.R ++ F) L w → Calls P f vs.toArray w (Ret fun u w' => ∃ x, p x ∧ u = v x ∧ St w (dom L) [] [A x, B x, C x, A' x] w'))
    (h : ∀ x, p x → J n D ((t, v x) :: E) σ (A x :: B x :: C x :: A' x :: F) K) :
    J n D E σ M (Op1 P ops Q ⟨some t, .call ⟨.value (.func f), xs.toArray, tys⟩, ty, pos, after, none⟩ K) := o_own L (L' := fun x => [A x, B x, C x, A' x]) hf hxs ht hc h

theorem tree_Add (τ : Tr) (ok : τ.ok) (h : Hd) (w : World) (hSt : St w (dom (treeM τ)) [] (treeM τ) w) :
    Calls Tryz.prog 15 [.pointer (some ⟨τ.bt, 0, none⟩), vHd h].toArray w (Ret fun u w' => u = vI (τ.s.err h) ∧ ∃ τ' : Tr, AddR τ h τ' ∧ St w (dom (treeM τ)) [] (treeM τ') w') := by
  have hbig := ok.l.big
  have htp := ok.tips
  refine begin_ Tryz.func15 rfl Tryz.ntmps15 rfl hSt ?_
  refine c_seq ?_
  refine c_region ?_
  refine seqq (o_box (T := 28) rfl (IsP.agg).cells rfl (fun b3 => ?_))
  refine seqq (o_y (y_assign rfl) rfl ?_)
  refine c_nil ?_
  refine c_seq ?_
  refine c_seq ?_
  refine c_region ?_
  refine seqq (o_y (y_move rfl) rfl ?_)
  refine seqq (o_y (y_eqlNilPk (v := false) Tryz.runUnderlying32 rfl rfl rfl) rfl ?_)
  refine c_nil ?_
  refine c_condF rfl ?_
  refine c_skip ?_
  refine c_seq ?_
  refine c_region ?_
  refine seqq (o_y (lN Tryz.isAgg28 Tryz.sizeOf28 rfl (by rfl)) rfl ?_)
  refine seqq (o_pure Tryz.call27 rfl (hdr_Hash _) rfl ?_)
  refine seqq (o_alloc (ps := [hP h0]) Tryz.zeroValue26 (by kernel_rfl) rfl (fun b5 => ?_))
  refine seqq (stN Tryz.sizeOf26 rfl rfl (by rfl) rfl (by rfl) ?_)
  refine c_nil ?_
  refine c_seq ?_
  refine c_seq ?_
  refine d_reg 9 mixed rfl ?_
  refine d_y (i := 0) (k' := 1) rfl (by kernel_rfl) (y_move rfl) rfl ?_
  refine d_y (i := 1) (k' := 3) rfl (by kernel_rfl) (y_nilCheck rfl) rfl ?_
  refine d_y (i := 2) (k' := 7) rfl (by kernel_rfl) (y_fieldAddr Tryz.runUnderlying91 rfl Tryz.sizeOf88 rfl rfl) rfl ?_
  refine d_s (i := 3) (k' := 15) rfl (by kernel_rfl) (by kernel_rfl) (l1 Tryz.isAgg88 rfl (by rfl)) hss rfl ?_
  refine d_s (i := 4) (k' := 31) rfl (by kernel_rfl) (by kernel_rfl) (lN Tryz.isAgg26 Tryz.sizeOf26 rfl (by rfl)) hss rfl ?_
  refine d_s (i := 5) (k' := 63) rfl (by kernel_rfl) (by kernel_rfl) (y_lookT (hashH h) rfl rfl) hss rfl ?_
  refine d_y (i := 6) (k' := 127) rfl (by kernel_rfl) (y_move rfl) rfl ?_
  refine d_y (i := 7) (k' := 255) rfl (by kernel_rfl) (y_extract rfl rfl) rfl ?_
  refine d_y (i := 8) (k' := 511) rfl (by kernel_rfl) (y_extract rfl rfl) rfl ?_
  refine d_y (i := 9) (k' := 1023) rfl (by kernel_rfl) (y_assign rfl) rfl ?_
  refine d_y (i := 10) (k' := 2047) rfl (by kernel_rfl) (y_assign rfl) rfl ?_
  refine d_end (by kernel_rfl) ?_
  refine c_seq ?_
  refine c_region ?_
  refine seqq (o_y (y_move rfl) rfl ?_)
  refine c_nil ?_
  refine c_cond rfl (fun h25 => ?_) (fun h25 => ?_)
  ·
    obtain ⟨q, hq⟩ := Option.isSome_iff_exists.1 h25
    refine c_seq ?_
    refine c_region ?_
    refine seqq (o_y (y_assign rfl) rfl ?_)
    refine c_nil ?_
    refine c_ret ?_
    refine c_done1 Tryz.results15 (.tmp rfl) (fun w hS => ?_)
    have e : τ.s.err h = 9 := by simp only [TS.err, Tr.s, hq]
    exact ⟨by rw [e], τ, ⟨ok, rfl, (add_bad (by rw [e]; decide)).symm⟩, hS.fin (N := treeM τ)⟩
  ·
    have hn : findT τ.L (hashH h) = none := by simpa using h25
    refine c_skip ?_
    refine c_seq ?_
    refine d_reg 10 mixed rfl ?_
    refine d_y (i := 0) (k' := 1) rfl (by kernel_rfl) (y_move rfl) rfl ?_
    refine d_y (i := 1) (k' := 3) rfl (by kernel_rfl) (y_nilCheck rfl) rfl ?_
    refine d_y (i := 2) (k' := 7) rfl (by kernel_rfl) (y_fieldAddr Tryz.runUnderlying91 rfl Tryz.sizeOf88 rfl rfl) rfl ?_
    refine d_s (i := 3) (k' := 15) rfl (by kernel_rfl) (by kernel_rfl) (l1 Tryz.isAgg88 rfl (by rfl)) hss rfl ?_
    refine d_y (i := 4) (k' := 31) rfl (by kernel_rfl) (y_fieldAddr Tryz.runUnderlying28 rfl Tryz.sizeOf26 rfl rfl) rfl ?_
    refine d_s (i := 5) (k' := 63) rfl (by kernel_rfl) (by kernel_rfl) (lN Tryz.isAgg26 Tryz.sizeOf26 rfl (by rfl)) hss rfl ?_
    refine d_s (i := 6) (k' := 127) rfl (by kernel_rfl) (by kernel_rfl) (y_lookT h.ahead rfl rfl) hss rfl ?_
    refine d_y (i := 7) (k' := 255) rfl (by kernel_rfl) (y_move rfl) rfl ?_
    refine d_y (i := 8) (k' := 511) rfl (by kernel_rfl) (y_extract rfl rfl) rfl ?_
    refine d_y (i := 9) (k' := 1023) rfl (by kernel_rfl) (y_extract rfl rfl) rfl ?_
    refine d_y (i := 10) (k' := 2047) rfl (by kernel_rfl) (y_assign rfl) rfl ?_
    refine d_y (i := 11) (k' := 4095) rfl (by kernel_rfl) (y_assign rfl) rfl ?_
    refine d_end (by kernel_rfl) ?_
    refine c_seq ?_
    refine c_seq ?_
    refine c_region ?_
    refine seqq (o_y (y_move rfl) rfl ?_)
    refine seqq (o_y (y_not rfl) rfl ?_)
    refine c_nil ?_
    refine c_cond rfl (fun h37 => ?_) (fun h37 => ?_)
    ·
      have hs : findT τ.L h.ahead = none := by simpa using h37
      refine c_seq ?_
      refine c_region ?_
      refine seqq (o_y (y_assign rfl) rfl ?_)
      refine c_nil ?_
      refine c_ret ?_
      refine c_done1 Tryz.results15 (.tmp rfl) (fun w hS => ?_)
      have e : τ.s.err h = 8 := by simp only [TS.err, Tr.s, hn, hs]
      exact ⟨by rw [e], τ, ⟨ok, rfl, (add_bad (by rw [e]; decide)).symm⟩, hS.fin (N := treeM τ)⟩
    ·
      have hs : (findT τ.L h.ahead).isSome = true := by simpa using h37
      obtain ⟨i, hi⟩ := Option.isSome_iff_exists.1 hs
      have hiL := (findT_spec hi).1
      have hkd := ok.l.kids i
      have hht := height_le ok.l i hiL
      have J1 := ins_ndS τ.bs τ.L i hiL
      refine j_re 8 rfl (show _ = ptrI τ.bs (some i) from by rw [hi]) ?_
      refine c_skip ?_
      refine c_seq ?_
      refine c_seq ?_
      refine c_region ?_
      refine seqq (o_y (y_move rfl) rfl ?_)
      refine seqq (o_y (lN Tryz.isAgg28 Tryz.sizeOf28 rfl (by rfl)) rfl ?_)
      refine seqq (o_y (y_move rfl) rfl ?_)
      refine seqq (o_pureS Tryz.call42 rfl (PureS.sub (tree_check τ ok h i hiL)) rfl ?_)
      refine seqq (o_y (y_assign rfl) rfl ?_)
      refine c_nil ?_
      refine c_seq ?_
      refine c_region ?_
      refine seqq (o_y (y_move rfl) rfl ?_)
      refine seqq (o_y (y_neqZ rfl rfl) rfl ?_)
      refine c_nil ?_
      refine c_ifn rfl (fun h43 => ?_) (fun h43 => ?_)
      ·
        refine c_seq ?_
        refine c_region ?_
        refine seqq (o_y (y_move rfl) rfl ?_)
        refine seqq (o_y (y_assign rfl) rfl ?_)
        refine c_nil ?_
        refine c_ret ?_
        refine c_done1 Tryz.results15 (.tmp rfl) (fun w hS => ?_)
        have e : τ.s.err h = checkT τ.r τ.L τ.tips h i := by simp only [TS.err, Tr.s, hn, hi]
        exact ⟨by rw [e], τ, ⟨ok, rfl, (add_bad (by rw [e]; exact h43)).symm⟩, hS.fin (N := treeM τ)⟩
      ·
        have hb := check_big h43
        refine c_skip ?_
        refine c_seq ?_
        refine d_reg 10 mixed rfl ?_
        refine d_s (i := 0) (k' := 1) rfl (by kernel_rfl) (by kernel_rfl) (lN Tryz.isAgg28 Tryz.sizeOf28 rfl (by rfl)) hss rfl ?_
        refine d_s (i := 1) (k' := 3) rfl (by kernel_rfl) (by kernel_rfl) (lN Tryz.isAgg26 Tryz.sizeOf26 rfl (by rfl)) hss rfl ?_
        refine d_y (i := 2) (k' := 7) rfl (by kernel_rfl) (y_move rfl) rfl ?_
        refine d_y (i := 3) (k' := 15) rfl (by kernel_rfl) (y_move rfl) rfl ?_
        refine d_y (i := 4) (k' := 31) rfl (by kernel_rfl) (y_nilCheck rfl) rfl ?_
        refine d_y (i := 5) (k' := 63) rfl (by kernel_rfl) (y_fieldAddr Tryz.runUnderlying86 rfl Tryz.sizeOf3 rfl rfl) rfl ?_
        refine d_s (i := 6) (k' := 127) rfl (by kernel_rfl) (by kernel_rfl) (l1 Tryz.isAgg3 rfl (by rfl)) hss rfl ?_
        refine d_y (i := 7) (k' := 255) rfl (by kernel_rfl) (y_addI rfl rfl (by omega)) rfl ?_
        refine d_y (i := 8) (k' := 511) rfl (by kernel_rfl) (y_build (zs := [P1 (bv .u32 0#32), zleaf .u8 8 32, zleaf .u8 8 32, P1 (bv .u32 0#32), P1 (bv .u32 0#32), P1 (bv .u32 0#32), zleaf .u8 8 32, P1 (.pointer none), P1 (vI 0), P1 (bv .u64 0#64), P1 (bv .u64 0#64), P1 (bv .u64 0#64), P1 (bv .u64 0#64), P1 (vI 0)]) (pl := [(0, 68), (68, 32), (100, 1), (101, 1), (102, 4), (106, 1)]) Tryz.runUnderlying86 Tryz.zeroValue86 (by kernel_rfl) (fun w => by kernel_rfl) (.agg rfl (.agg rfl (.one rfl rfl (.one rfl rfl .nil)))) (by rfl)) rfl ?_
        refine d_e (i := 9) (k' := 1023) rfl (by kernel_rfl) (o_box (T := 86) rfl (IsP.agg).cells rfl (fun b54 => d_keep hss ?_))
        refine d_y (i := 10) (k' := 2047) rfl (by kernel_rfl) (y_assign rfl) rfl ?_
        refine d_end (by kernel_rfl) ?_
        refine c_seq ?_
        refine d_reg 11 mixed rfl ?_
        refine d_y (i := 0) (k' := 1) rfl (by kernel_rfl) (y_move rfl) rfl ?_
        refine d_y (i := 1) (k' := 3) rfl (by kernel_rfl) (y_move rfl) rfl ?_
        refine d_y (i := 2) (k' := 7) rfl (by kernel_rfl) (y_nilCheck rfl) rfl ?_
        refine d_y (i := 3) (k' := 15) rfl (by kernel_rfl) (y_fieldAddr Tryz.runUnderlying86 rfl Tryz.sizeOf51 rfl rfl) rfl ?_
        refine d_s (i := 4) (k' := 31) rfl (by kernel_rfl) (by kernel_rfl) (lN Tryz.isAgg51 Tryz.sizeOf51 rfl (by rfl)) hss rfl ?_
        refine d_s (i := 5) (k' := 63) rfl (by kernel_rfl) (by kernel_rfl) (lN Tryz.isAgg28 Tryz.sizeOf28 rfl (by rfl)) hss rfl ?_
        refine d_c (i := 6) (k' := 127) rfl (by kernel_rfl) Tryz.call36 rfl (tree_work _) rfl ?_
        refine d_c (i := 7) (k' := 255) rfl (by kernel_rfl) Tryz.call43 rfl (wide_Add _ _ (ok.l.work i) (workN_lt h)) rfl ?_
        refine d_y (i := 8) (k' := 511) rfl (by kernel_rfl) (y_move rfl) rfl ?_
        refine d_y (i := 9) (k' := 1023) rfl (by kernel_rfl) (y_extract rfl rfl) rfl ?_
        refine d_y (i := 10) (k' := 2047) rfl (by kernel_rfl) (y_extract rfl rfl) rfl ?_
        refine d_y (i := 11) (k' := 4095) rfl (by kernel_rfl) (y_nilCheck rfl) rfl ?_
        refine d_y (i := 12) (k' := 8191) rfl (by kernel_rfl) (y_fieldAddr Tryz.runUnderlying86 rfl Tryz.sizeOf51 rfl rfl) rfl ?_
        refine d_e (i := 13) (k' := 16383) rfl (by kernel_rfl) (stN Tryz.sizeOf51 rfl rfl (by rfl) rfl (by rfl) ( d_past rfl ?_))
        refine d_end (by kernel_rfl) ?_
        refine c_seq ?_
        refine c_seq ?_
        refine c_region ?_
        refine seqq (o_y (y_move rfl) rfl ?_)
        refine seqq (o_y (y_nilCheck rfl) rfl ?_)
        refine seqq (o_y (y_fieldAddr Tryz.runUnderlying86 rfl Tryz.sizeOf3 rfl rfl) rfl ?_)
        refine seqq (o_y (l1 Tryz.isAgg3 rfl (by rfl)) rfl ?_)
        refine seqq (o_y (y_gtrZ rfl rfl) rfl ?_)
        refine c_nil ?_
        refine c_if rfl (fun h72 => ?_) (fun h72 => ?_)
        ·
          refine c_region ?_
          refine seqq (o_y (y_move rfl) rfl ?_)
          refine seqq (o_y (y_nilCheck rfl) rfl ?_)
          refine seqq (o_y (y_fieldAddr Tryz.runUnderlying91 rfl Tryz.sizeOf3 rfl rfl) rfl ?_)
          refine seqq (o_y (l1 Tryz.isAgg3 rfl (by rfl)) rfl ?_)
          refine seqq (o_y (y_addI rfl rfl (by omega)) rfl ?_)
          refine seqq (o_y (y_nilCheck rfl) rfl ?_)
          refine seqq (o_y (y_fieldAddr Tryz.runUnderlying91 rfl Tryz.sizeOf3 rfl rfl) rfl ?_)
          refine seqq (st1 (h1 := rfl) Tryz.sizeOf3 rfl rfl (by rfl) (by rfl) ?_)
          refine c_nil ?_
          refine c_seq ?_
          refine c_region ?_
          refine seqq (o_y (y_move rfl) rfl ?_)
          refine seqq (o_y (y_nilCheck rfl) rfl ?_)
          refine seqq (o_y (y_fieldAddr Tryz.runUnderlying86 rfl Tryz.sizeOf3 rfl rfl) rfl ?_)
          refine seqq (o_y (l1 Tryz.isAgg3 rfl (by rfl)) rfl ?_)
          refine seqq (o_y (y_addI rfl rfl (by omega)) rfl ?_)
          refine seqq (o_y (y_nilCheck rfl) rfl ?_)
          refine seqq (o_y (y_fieldAddr Tryz.runUnderlying86 rfl Tryz.sizeOf3 rfl rfl) rfl ?_)
          refine seqq (o_kids i hiL rfl rfl ?_)
          refine j_seg (T := [(τ.bm, mObT τ.bs τ.L)]) (T' := [(τ.bm, mObT τ.bs (bumpK τ.L i))]) (by rw [mObT_bump]) ?_
          refine c_nil ?_
          refine c_seq ?_
          refine d_reg 6 mixed rfl ?_
          refine d_y (i := 0) (k' := 1) rfl (by kernel_rfl) (y_move rfl) rfl ?_
          refine d_y (i := 1) (k' := 3) rfl (by kernel_rfl) (y_nilCheck rfl) rfl ?_
          refine d_y (i := 2) (k' := 7) rfl (by kernel_rfl) (y_fieldAddr Tryz.runUnderlying91 rfl Tryz.sizeOf88 rfl rfl) rfl ?_
          refine d_s (i := 3) (k' := 15) rfl (by kernel_rfl) (by kernel_rfl) (l1 Tryz.isAgg88 rfl (by rfl)) hss rfl ?_
          refine d_s (i := 4) (k' := 31) rfl (by kernel_rfl) (by kernel_rfl) (lN Tryz.isAgg26 Tryz.sizeOf26 rfl (by rfl)) hss rfl ?_
          refine d_y (i := 5) (k' := 63) rfl (by kernel_rfl) (y_move rfl) rfl ?_
          refine d_e (i := 6) (k' := 127) rfl (by kernel_rfl) (o_putT (bs := τ.bs) (L := bumpK τ.L i) (b := b54) (newNd τ.L h i) (.inl rfl) (by rw [bumpK_len]; exact ok.bs) (by rw [findT, findF_bump]; exact hn) rfl rfl rfl (by rfl) ( d_past rfl ?_))
          refine j_obj b54 (ps' := ndP (τ.bs ++ [b54]) (newNd τ.L h i)) (new_ps (by rw [ok.bs]; exact hiL)) (by rfl) ?_
          refine j_ndApp (bs := τ.bs) (L1 := bumpK τ.L i) b54 (newNd τ.L h i) rfl (by rw [bumpK_len]; exact ok.bs) (bump_ahead ok.l ok.bs hiL) ?_
          refine j_seg (T := [(τ.bm, mObT (τ.bs ++ [b54]) (bumpK τ.L i ++ [newNd τ.L h i]))]) (T' := [(τ.bm, mObT (τ.bs ++ [b54]) (addL τ.L h i))]) rfl ?_
          refine j_seg (T := ndSeg (τ.bs ++ [b54]) (bumpK τ.L i ++ [newNd τ.L h i])) (T' := ndSeg (τ.bs ++ [b54]) (addL τ.L h i)) rfl ?_
          refine j_fact (p := (τ.bs ++ [b54]).Nodup) (fun w hw => bs_nodup (L := (addL τ.L h i)) (by simp [addL_len, ok.bs]) (by have := hw.nodup; rw [dom_cons, List.nodup_append] at this; exact this.1)) (fun hnd => ?_)
          have ok1 : (τ.add1 h i b54).ok := add1_ok ok h hiL hb hnd
          refine j_obj τ.bt (ps' := trP (τ.add1 h i b54)) (by simp only [trP, tipsA, if_pos h72] <;> rfl) (by rfl) ?_
          refine j_seg (T := [(τ.bc, chOb τ.bs τ.ch τ.sp)]) (T' := [(τ.bc, chOb (τ.bs ++ [b54]) τ.ch τ.sp)]) (by rw [chOb_app ok.c ok.bs b54]) ?_
          refine j_re 11 rfl (show _ = ptrI (τ.bs ++ [b54]) (some τ.L.length) from by rw [ptrI, ptrA, Option.map_some, ← ok.bs, getD_app']) ?_
          have J3 := ins_ndS (τ.bs ++ [b54]) (addL τ.L h i) τ.L.length (by rw [addL_len]; omega)
          have J4 := ins_ndS (τ.bs ++ [b54]) (addL τ.L h i) (bestI τ.ch) (by rw [addL_len]; have := bestI_lt ok.c; omega)
          refine d_end (by kernel_rfl) ?_
          refine c_seq ?_
          refine c_seq ?_
          refine d_reg 11 mixed rfl ?_
          refine d_y (i := 0) (k' := 1) rfl (by kernel_rfl) (y_move rfl) rfl ?_
          refine d_y (i := 1) (k' := 3) rfl (by kernel_rfl) (y_nilCheck rfl) rfl ?_
          refine d_y (i := 2) (k' := 7) rfl (by kernel_rfl) (y_fieldAddr Tryz.runUnderlying86 rfl Tryz.sizeOf51 rfl rfl) rfl ?_
          refine d_s (i := 3) (k' := 15) rfl (by kernel_rfl) (by kernel_rfl) (lN Tryz.isAgg51 Tryz.sizeOf51 rfl (by rfl)) hss rfl ?_
          refine d_y (i := 4) (k' := 31) rfl (by kernel_rfl) (y_move rfl) rfl ?_
          refine d_cS (i := 5) (k' := 63) rfl (by kernel_rfl) (by kernel_rfl) Tryz.call41 rfl (PureS.sub (tree_best (τ.add1 h i b54) ok1)) hss rfl ?_
          refine d_y (i := 6) (k' := 127) rfl (by kernel_rfl) (y_nilCheck rfl) rfl ?_
          refine d_y (i := 7) (k' := 255) rfl (by kernel_rfl) (y_fieldAddr Tryz.runUnderlying86 rfl Tryz.sizeOf51 rfl rfl) rfl ?_
          refine d_s (i := 8) (k' := 511) rfl (by kernel_rfl) (by kernel_rfl) (lN Tryz.isAgg51 Tryz.sizeOf51 rfl (by rfl)) hss rfl ?_
          refine d_c (i := 9) (k' := 1023) rfl (by kernel_rfl) Tryz.call17 rfl (wide_Cmp _ _ (ok1.l.work _) (ok1.l.work _)) rfl ?_
          refine d_y (i := 10) (k' := 2047) rfl (by kernel_rfl) (y_gtrZ rfl rfl) rfl ?_
          refine d_end (by kernel_rfl) ?_
          refine c_if rfl (fun h103 => ?_) (fun h103 => ?_)
          ·
            refine c_region ?_
            refine seqq (o_y (y_move rfl) rfl ?_)
            refine seqq (o_y (y_move rfl) rfl ?_)
            refine seqq (o_own4 (X := Nat × Nat × List Value) (v := fun _ => .tuple #[]) (p := fun x => (chV (τ.bs ++ [b54]) (lineI (addL τ.L h i) τ.L.length) ++ x.2.2).length = x.2.1) (treeM (τ.add1 h i b54)) (A := fun x => [(τ.bt, obj 91 (trP ((τ.add1 h i b54).turn x (lineI (addL τ.L h i) τ.L.length))))]) (B := fun x => [(τ.bm, mObT (τ.bs ++ [b54]) (addL τ.L h i))]) (C := fun x => [(x.1, chOb (τ.bs ++ [b54]) (lineI (addL τ.L h i) τ.L.length) x.2.2)]) (A' := fun x => ndSeg (τ.bs ++ [b54]) (addL τ.L h i)) Tryz.call44 rfl rfl (fun w hw => (tree_turn (τ.add1 h i b54) ok1 τ.L.length (by rw [addL_len]; omega) w hw.noR).mono (fun e w2 h => by obtain ⟨v, h1, x, h2, h3, h4⟩ := h; exact ⟨v, h1, x, h2, h3, h4⟩))  (fun x hx => ?_))
            refine c_nil ?_
            refine c_seq ?_
            refine c_region ?_
            refine seqq (o_y (y_assign rfl) rfl ?_)
            refine c_nil ?_
            refine c_ret ?_
            refine c_done1 Tryz.results15 (.tmp rfl) (fun w hS => ?_)
            have e : τ.s.err h = 0 := by simp only [TS.err, Tr.s, hn, hi]; exact h43
            have e2 : τ.s.add h = τ.s.put h i := add_good e hi
            exact ⟨by rw [e], (τ.add1 h i b54).turn x (lineI (addL τ.L h i) τ.L.length), ⟨turn_ok ok1 (by rw [addL_len]; omega) hx, rfl, by rw [e2, put_turn (s := τ.s) ((better hiL (bestI_lt ok.c)).1 h103)]; rfl⟩, hS.fin (N := [[(τ.bt, obj 91 (trP ((τ.add1 h i b54).turn x (lineI (addL τ.L h i) τ.L.length))))], [(τ.bm, mObT (τ.bs ++ [b54]) (addL τ.L h i))], [(x.1, chOb (τ.bs ++ [b54]) (lineI (addL τ.L h i) τ.L.length) x.2.2)], ndSeg (τ.bs ++ [b54]) (addL τ.L h i)])⟩
          ·
            refine c_skip ?_
            refine c_seq ?_
            refine c_region ?_
            refine seqq (o_y (y_assign rfl) rfl ?_)
            refine c_nil ?_
            refine c_ret ?_
            refine c_done1 Tryz.results15 (.tmp rfl) (fun w hS => ?_)
            have e : τ.s.err h = 0 := by simp only [TS.err, Tr.s, hn, hi]; exact h43
            have e2 : τ.s.add h = τ.s.put h i := add_good e hi
            exact ⟨by rw [e], (τ.add1 h i b54), ⟨ok1, rfl, by rw [e2, put_stay (s := τ.s) (fun hh => h103 ((better hiL (bestI_lt ok.c)).2 hh))]; rfl⟩, hS.fin (N := treeM (τ.add1 h i b54))⟩
        ·
          refine c_skip ?_
          refine c_seq ?_
          refine c_region ?_
          refine seqq (o_y (y_move rfl) rfl ?_)
          refine seqq (o_y (y_nilCheck rfl) rfl ?_)
          refine seqq (o_y (y_fieldAddr Tryz.runUnderlying86 rfl Tryz.sizeOf3 rfl rfl) rfl ?_)
          refine seqq (o_y (l1 Tryz.isAgg3 rfl (by rfl)) rfl ?_)
          refine seqq (o_y (y_addI rfl rfl (by omega)) rfl ?_)
          refine seqq (o_y (y_nilCheck rfl) rfl ?_)
          refine seqq (o_y (y_fieldAddr Tryz.runUnderlying86 rfl Tryz.sizeOf3 rfl rfl) rfl ?_)
          refine seqq (o_kids i hiL rfl rfl ?_)
          refine j_seg (T := [(τ.bm, mObT τ.bs τ.L)]) (T' := [(τ.bm, mObT τ.bs (bumpK τ.L i))]) (by rw [mObT_bump]) ?_
          refine c_nil ?_
          refine c_seq ?_
          refine d_reg 6 mixed rfl ?_
          refine d_y (i := 0) (k' := 1) rfl (by kernel_rfl) (y_move rfl) rfl ?_
          refine d_y (i := 1) (k' := 3) rfl (by kernel_rfl) (y_nilCheck rfl) rfl ?_
          refine d_y (i := 2) (k' := 7) rfl (by kernel_rfl) (y_fieldAddr Tryz.runUnderlying91 rfl Tryz.sizeOf88 rfl rfl) rfl ?_
          refine d_s (i := 3) (k' := 15) rfl (by kernel_rfl) (by kernel_rfl) (l1 Tryz.isAgg88 rfl (by rfl)) hss rfl ?_
          refine d_s (i := 4) (k' := 31) rfl (by kernel_rfl) (by kernel_rfl) (lN Tryz.isAgg26 Tryz.sizeOf26 rfl (by rfl)) hss rfl ?_
          refine d_y (i := 5) (k' := 63) rfl (by kernel_rfl) (y_move rfl) rfl ?_
          refine d_e (i := 6) (k' := 127) rfl (by kernel_rfl) (o_putT (bs := τ.bs) (L := bumpK τ.L i) (b := b54) (newNd τ.L h i) (.inl rfl) (by rw [bumpK_len]; exact ok.bs) (by rw [findT, findF_bump]; exact hn) rfl rfl rfl (by rfl) ( d_past rfl ?_))
          refine j_obj b54 (ps' := ndP (τ.bs ++ [b54]) (newNd τ.L h i)) (new_ps (by rw [ok.bs]; exact hiL)) (by rfl) ?_
          refine j_ndApp (bs := τ.bs) (L1 := bumpK τ.L i) b54 (newNd τ.L h i) rfl (by rw [bumpK_len]; exact ok.bs) (bump_ahead ok.l ok.bs hiL) ?_
          refine j_seg (T := [(τ.bm, mObT (τ.bs ++ [b54]) (bumpK τ.L i ++ [newNd τ.L h i]))]) (T' := [(τ.bm, mObT (τ.bs ++ [b54]) (addL τ.L h i))]) rfl ?_
          refine j_seg (T := ndSeg (τ.bs ++ [b54]) (bumpK τ.L i ++ [newNd τ.L h i])) (T' := ndSeg (τ.bs ++ [b54]) (addL τ.L h i)) rfl ?_
          refine j_fact (p := (τ.bs ++ [b54]).Nodup) (fun w hw => bs_nodup (L := (addL τ.L h i)) (by simp [addL_len, ok.bs]) (by have := hw.nodup; rw [dom_cons, List.nodup_append] at this; exact this.1)) (fun hnd => ?_)
          have ok1 : (τ.add1 h i b54).ok := add1_ok ok h hiL hb hnd
          refine j_obj τ.bt (ps' := trP (τ.add1 h i b54)) (by simp only [trP, tipsA, if_neg h72] <;> rfl) (by rfl) ?_
          refine j_seg (T := [(τ.bc, chOb τ.bs τ.ch τ.sp)]) (T' := [(τ.bc, chOb (τ.bs ++ [b54]) τ.ch τ.sp)]) (by rw [chOb_app ok.c ok.bs b54]) ?_
          refine j_re 11 rfl (show _ = ptrI (τ.bs ++ [b54]) (some τ.L.length) from by rw [ptrI, ptrA, Option.map_some, ← ok.bs, getD_app']) ?_
          have J3 := ins_ndS (τ.bs ++ [b54]) (addL τ.L h i) τ.L.length (by rw [addL_len]; omega)
          have J4 := ins_ndS (τ.bs ++ [b54]) (addL τ.L h i) (bestI τ.ch) (by rw [addL_len]; have := bestI_lt ok.c; omega)
          refine d_end (by kernel_rfl) ?_
          refine c_seq ?_
          refine c_seq ?_
          refine d_reg 11 mixed rfl ?_
          refine d_y (i := 0) (k' := 1) rfl (by kernel_rfl) (y_move rfl) rfl ?_
          refine d_y (i := 1) (k' := 3) rfl (by kernel_rfl) (y_nilCheck rfl) rfl ?_
          refine d_y (i := 2) (k' := 7) rfl (by kernel_rfl) (y_fieldAddr Tryz.runUnderlying86 rfl Tryz.sizeOf51 rfl rfl) rfl ?_
          refine d_s (i := 3) (k' := 15) rfl (by kernel_rfl) (by kernel_rfl) (lN Tryz.isAgg51 Tryz.sizeOf51 rfl (by rfl)) hss rfl ?_
          refine d_y (i := 4) (k' := 31) rfl (by kernel_rfl) (y_move rfl) rfl ?_
          refine d_cS (i := 5) (k' := 63) rfl (by kernel_rfl) (by kernel_rfl) Tryz.call41 rfl (PureS.sub (tree_best (τ.add1 h i b54) ok1)) hss rfl ?_
          refine d_y (i := 6) (k' := 127) rfl (by kernel_rfl) (y_nilCheck rfl) rfl ?_
          refine d_y (i := 7) (k' := 255) rfl (by kernel_rfl) (y_fieldAddr Tryz.runUnderlying86 rfl Tryz.sizeOf51 rfl rfl) rfl ?_
          refine d_s (i := 8) (k' := 511) rfl (by kernel_rfl) (by kernel_rfl) (lN Tryz.isAgg51 Tryz.sizeOf51 rfl (by rfl)) hss rfl ?_
          refine d_c (i := 9) (k' := 1023) rfl (by kernel_rfl) Tryz.call17 rfl (wide_Cmp _ _ (ok1.l.work _) (ok1.l.work _)) rfl ?_
          refine d_y (i := 10) (k' := 2047) rfl (by kernel_rfl) (y_gtrZ rfl rfl) rfl ?_
          refine d_end (by kernel_rfl) ?_
          refine c_if rfl (fun h103 => ?_) (fun h103 => ?_)
          ·
            refine c_region ?_
            refine seqq (o_y (y_move rfl) rfl ?_)
            refine seqq (o_y (y_move rfl) rfl ?_)
            refine seqq (o_own4 (X := Nat × Nat × List Value) (v := fun _ => .tuple #[]) (p := fun x => (chV (τ.bs ++ [b54]) (lineI (addL τ.L h i) τ.L.length) ++ x.2.2).length = x.2.1) (treeM (τ.add1 h i b54)) (A := fun x => [(τ.bt, obj 91 (trP ((τ.add1 h i b54).turn x (lineI (addL τ.L h i) τ.L.length))))]) (B := fun x => [(τ.bm, mObT (τ.bs ++ [b54]) (addL τ.L h i))]) (C := fun x => [(x.1, chOb (τ.bs ++ [b54]) (lineI (addL τ.L h i) τ.L.length) x.2.2)]) (A' := fun x => ndSeg (τ.bs ++ [b54]) (addL τ.L h i)) Tryz.call44 rfl rfl (fun w hw => (tree_turn (τ.add1 h i b54) ok1 τ.L.length (by rw [addL_len]; omega) w hw.noR).mono (fun e w2 h => by obtain ⟨v, h1, x, h2, h3, h4⟩ := h; exact ⟨v, h1, x, h2, h3, h4⟩))  (fun x hx => ?_))
            refine c_nil ?_
            refine c_seq ?_
            refine c_region ?_
            refine seqq (o_y (y_assign rfl) rfl ?_)
            refine c_nil ?_
            refine c_ret ?_
            refine c_done1 Tryz.results15 (.tmp rfl) (fun w hS => ?_)
            have e : τ.s.err h = 0 := by simp only [TS.err, Tr.s, hn, hi]; exact h43
            have e2 : τ.s.add h = τ.s.put h i := add_good e hi
            exact ⟨by rw [e], (τ.add1 h i b54).turn x (lineI (addL τ.L h i) τ.L.length), ⟨turn_ok ok1 (by rw [addL_len]; omega) hx, rfl, by rw [e2, put_turn (s := τ.s) ((better hiL (bestI_lt ok.c)).1 h103)]; rfl⟩, hS.fin (N := [[(τ.bt, obj 91 (trP ((τ.add1 h i b54).turn x (lineI (addL τ.L h i) τ.L.length))))], [(τ.bm, mObT (τ.bs ++ [b54]) (addL τ.L h i))], [(x.1, chOb (τ.bs ++ [b54]) (lineI (addL τ.L h i) τ.L.length) x.2.2)], ndSeg (τ.bs ++ [b54]) (addL τ.L h i)])⟩
          ·
            refine c_skip ?_
            refine c_seq ?_
            refine c_region ?_
            refine seqq (o_y (y_assign rfl) rfl ?_)
            refine c_nil ?_
            refine c_ret ?_
            refine c_done1 Tryz.results15 (.tmp rfl) (fun w hS => ?_)
            have e : τ.s.err h = 0 := by simp only [TS.err, Tr.s, hn, hi]; exact h43
            have e2 : τ.s.add h = τ.s.put h i := add_good e hi
            exact ⟨by rw [e], (τ.add1 h i b54), ⟨ok1, rfl, by rw [e2, put_stay (s := τ.s) (fun hh => h103 ((better hiL (bestI_lt ok.c)).2 hh))]; rfl⟩, hS.fin (N := treeM (τ.add1 h i b54))⟩
