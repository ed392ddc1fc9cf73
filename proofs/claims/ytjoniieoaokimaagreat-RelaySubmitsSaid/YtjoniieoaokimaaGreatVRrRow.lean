/- For every rules the law RelayRules (pontagelaw13) answers true, and its argument reads behind the call as before. Conditions: none. -/
import Derived.Test.YtjoniieoaokimaaGreatVLift
import Derived.Test.YtjoniieoaokimaaGreatVRr
set_option linter.unusedVariables false
set_option linter.unusedSimpArgs false
set_option linter.unusedSectionVars false
set_option autoImplicit true
set_option relaxedAutoImplicit true
set_option maxRecDepth 100000
set_option maxHeartbeats 1000000
namespace Go.Proofs.YtjoniieoaokimaaGreat
open Go.ChangeShapes Go.WideShapes Go.ChangeAt Go.RowKit Go.V
theorem Tryz.own : ownKnob Tryz.prog.godebug = none := by kernel_rfl
theorem Tryz.laidOut : laidOutB Tryz.prog = true := by kernel_rfl
/-- what a law's call has to come to -/
def LawCall (f : FuncId) (W : World) (args : Array Value) : Prop := Calls Tryz.prog f args W (Ret fun u w' => u = .bool true ∧ Ext W w')
theorem law_post {H : Type} {enc : TypeId × Value → H} {F : Func} {s : ChangeSpec} {W W' : World} {args : Array Value} {ds : List (DataW H)} {before : List MemPlace} (hs : s.vars = []) (hfn : s.fn H ds = { results := [.lit (.bool true)], args := ds })
    (hr : ∀ t ∈ F.params.toList, Tryz.prog.readableRec t = true ∧ t < Tryz.prog.types.size) (hb : F.resultTypes = #[4]) (hW : DataW.Whole enc Tryz.prog F.params.toList s.vars false W args.toList ds [] before) (hE : Ext W W') :
    s.post enc Tryz.prog F false true false false W args (.bool true) W' := by
  have hlt : ∀ x ∈ before, x.block < W.heap.size := fun x hx => by simpa using hW.lt x hx
  have hW2 := hW
  obtain ⟨p, q, hA, hV, rfl, _, _⟩ := hW2
  rw [hs] at hV
  have hq : q = [] := by simpa [DataW.TrodVars] using hV
  subst hq
  refine ⟨ds, [], _, [], p, [], hW, ?_, ?_, ?_, hE.below.frame _, fun h => by cases h⟩
  · rw [List.append_nil, hfn, hb]
    exact trodAll_mk1 (shut_bool Tryz.underlying4 true)
  · rw [List.append_nil, hfn]
    exact trodAll_below Tryz.laidOut hE.below _ _ _ _ hr (fun x hx => hlt x (by simpa using hx)) hA
  · rw [hs, List.append_nil, hfn]
    exact rfl
theorem ints_app (ks ks' : List IntKind) (zs zs' : List Int) (h : zs.length = ks.length) : intsOf (ks ++ ks') (zs ++ zs') = intsOf ks zs ++ intsOf ks' zs' := by
  unfold intsOf; exact List.zipWith_append h.symm
theorem ints_bytes : ∀ (n : Nat) (zs : List Int), zs.length = n → (∀ z ∈ zs, IntKind.u8.has z) → intsOf (List.replicate n .u8) zs = (zs.map (BitVec.ofInt 8)).map (bv .u8)
  | 0, [], _, _ => rfl
  | n + 1, z :: zs, h, hh => by
    have ih := ints_bytes n zs (by simpa using h) (fun x hx => hh x (List.mem_cons_of_mem _ hx))
    simp only [intsOf] at ih
    simp only [intsOf, List.replicate_succ, List.zipWith_cons_cons, List.map_cons, ih, bv_has UK.u8 (hh z (by simp))]
  | 0, _ :: _, h, _ => by simp at h
  | _ + 1, [], h, _ => by simp at h
def kHd : List IntKind := [.u32] ++ List.replicate 32 .u8 ++ List.replicate 32 .u8 ++ [.u32, .u32, .u32]
def kRl : List IntKind := [.i64, .u32, .u32, .i64] ++ kHd
theorem split_at {α : Type} (l : List α) (n : Nat) : l = l.take n ++ l.drop n := (List.take_append_drop n l).symm
theorem hd_of (zs : List Int) (hl : zs.length = 68) (h : ∀ (i : Nat) (k : IntKind) (z : Int), kHd[i]? = some k → zs[i]? = some z → k.has z) : ∃ x : Hd, intsOf kHd zs = flat (hdP x) := by
  obtain ⟨v, zs1, rfl⟩ : ∃ v zs1, zs = v :: zs1 := by cases zs with
    | nil => simp at hl
    | cons v zs1 => exact ⟨v, zs1, rfl⟩
  obtain ⟨l1, zs2, rfl, h1⟩ : ∃ l1 zs2, zs1 = l1 ++ zs2 ∧ l1.length = 32 := ⟨zs1.take 32, zs1.drop 32, split_at _ _, by simp at hl ⊢; omega⟩
  obtain ⟨l2, zs3, rfl, h2⟩ : ∃ l2 zs3, zs2 = l2 ++ zs3 ∧ l2.length = 32 := ⟨zs2.take 32, zs2.drop 32, split_at _ _, by simp at hl ⊢; omega⟩
  simp only [List.length_cons, List.length_append] at hl
  match zs3, (show zs3.length = 3 by omega) with
  | [a, b, c], _ =>
    have g0 : IntKind.u32.has v := h 0 .u32 v rfl rfl
    have g1 : ∀ z ∈ l1, IntKind.u8.has z := fun z hz => by
      obtain ⟨i, hi, rfl⟩ := List.getElem_of_mem hz
      refine h (i + 1) .u8 _ ?_ ?_
      · simp only [kHd, List.append_assoc, List.cons_append, List.nil_append, List.getElem?_cons_succ]
        rw [List.getElem?_append_left (by simp; omega), List.getElem?_replicate, if_pos (by omega)]
      · simp only [List.getElem?_cons_succ]
        rw [List.getElem?_append_left hi, List.getElem?_eq_getElem hi]
    have g2 : ∀ z ∈ l2, IntKind.u8.has z := fun z hz => by
      obtain ⟨i, hi, rfl⟩ := List.getElem_of_mem hz
      refine h (i + 33) .u8 _ ?_ ?_
      · simp only [kHd, List.append_assoc, List.cons_append, List.nil_append]
        rw [show i + 33 = (i + 32) + 1 from rfl, List.getElem?_cons_succ, List.getElem?_append_right (by simp), List.getElem?_append_left (by simp; omega), List.length_replicate, Nat.add_sub_cancel, List.getElem?_replicate, if_pos (by omega)]
      · rw [show i + 33 = (i + 32) + 1 from rfl, List.getElem?_cons_succ, List.getElem?_append_right (by omega), h1, Nat.add_sub_cancel, List.getElem?_append_left hi, List.getElem?_eq_getElem hi]
    have g3 : ∀ (j : Nat) (z : Int), j < 3 → [a, b, c][j]? = some z → IntKind.u32.has z := fun j z hj hz => by
      refine h (j + 65) .u32 z ?_ ?_
      · have : j = 0 ∨ j = 1 ∨ j = 2 := by omega
        rcases this with rfl | rfl | rfl <;> rfl
      · rw [show j + 65 = (j + 64) + 1 from rfl, List.getElem?_cons_succ, List.getElem?_append_right (by omega), List.getElem?_append_right (by omega), h1, h2, show j + 64 - 32 - 32 = j from by omega]
        exact hz
    refine ⟨⟨BitVec.ofInt 32 v, ⟨l1.map (BitVec.ofInt 8), by simp [h1]⟩, ⟨l2.map (BitVec.ofInt 8), by simp [h2]⟩, BitVec.ofInt 32 a, BitVec.ofInt 32 b, BitVec.ofInt 32 c⟩, ?_⟩
    have e : (v :: (l1 ++ (l2 ++ [a, b, c]))) = [v] ++ l1 ++ l2 ++ [a, b, c] := by simp
    rw [e, kHd, ints_app _ _ _ _ (by simp [h1, h2]), ints_app _ _ _ _ (by simp [h1, h2]), ints_app _ _ _ _ (by simp), ints_bytes 32 l1 h1 g1, ints_bytes 32 l2 h2 g2]
    simp only [intsOf, List.zipWith_cons_cons, List.zipWith_nil_left, hdP, flat, P1, hP, leaf, bv_has UK.u32 g0, bv_has UK.u32 (g3 0 a (by omega) rfl), bv_has UK.u32 (g3 1 b (by omega) rfl), bv_has UK.u32 (g3 2 c (by omega) rfl)]
    simp
theorem rl_of (zs : List Int) (hl : zs.length = 72) (h : ∀ (i : Nat) (k : IntKind) (z : Int), kRl[i]? = some k → zs[i]? = some z → k.has z) : ∃ r : Rl, intsOf kRl zs = flat (rlP r) := by
  match zs, hl with
  | a :: b :: c :: d :: zs1, hl =>
    obtain ⟨x, hx⟩ := hd_of zs1 (by simpa using hl) (fun i k z hk hz => h (i + 4) k z (by simpa [kRl] using hk) (by simpa using hz))
    refine ⟨⟨a, BitVec.ofInt 32 b, BitVec.ofInt 32 c, d, x⟩, ?_⟩
    have e : intsOf kRl (a :: b :: c :: d :: zs1) = [.int .i64 a, .int .u32 b, .int .u32 c, .int .i64 d] ++ intsOf kHd zs1 := rfl
    rw [e, hx]
    simp only [rlP, hdP, flat, P1, bv_has UK.u32 (h 1 .u32 b rfl rfl), bv_has UK.u32 (h 2 .u32 c rfl rfl)]
    simp
theorem open_rl {W : World} {base : Nat} {v : Value} (h : Value.okWide Tryz.prog W .any base 30 v) : ∃ r : Rl, v = vRl r := by
  obtain ⟨cs, rfl, h1, h2⟩ := ok_agg (ts := [3, 22, 22, 3, 22] ++ List.replicate 64 5 ++ [22, 22, 22]) h (by kernel_rfl) (by kernel_rfl)
  have hc : Tryz.prog.cellsOf 30 = 72 := by kernel_rfl
  rw [hc] at h1
  obtain ⟨zs, h3, rfl, h4⟩ := ok_ints kRl (by rw [h1]; rfl) rfl (by
    intro i k hk
    have hi : i < 72 := (List.getElem?_eq_some_iff.1 hk).1
    have key : ∀ j : Fin 72, ∃ u, ([3, 22, 22, 3, 22] ++ List.replicate 64 5 ++ [22, 22, 22])[j.1]? = some u ∧ ((u = 3 ∧ kRl[j.1]? = some .i64) ∨ (u = 22 ∧ kRl[j.1]? = some .u32) ∨ (u = 5 ∧ kRl[j.1]? = some .u8)) := by
      intro j
      have : ∀ j : Fin 72, (([3, 22, 22, 3, 22] ++ List.replicate 64 5 ++ [22, 22, 22] : List Nat)[j.1]? = some 3 ∧ kRl[j.1]? = some .i64) ∨ (([3, 22, 22, 3, 22] ++ List.replicate 64 5 ++ [22, 22, 22] : List Nat)[j.1]? = some 22 ∧ kRl[j.1]? = some .u32) ∨ (([3, 22, 22, 3, 22] ++ List.replicate 64 5 ++ [22, 22, 22] : List Nat)[j.1]? = some 5 ∧ kRl[j.1]? = some .u8) := by decide
      rcases this j with ⟨a, b⟩ | ⟨a, b⟩ | ⟨a, b⟩
      · exact ⟨3, a, .inl ⟨rfl, b⟩⟩
      · exact ⟨22, a, .inr (.inl ⟨rfl, b⟩)⟩
      · exact ⟨5, a, .inr (.inr ⟨rfl, b⟩)⟩
    obtain ⟨u, hu, h⟩ := key ⟨i, hi⟩
    refine ⟨u, hu, ?_⟩
    rcases h with ⟨rfl, hk'⟩ | ⟨rfl, hk'⟩ | ⟨rfl, hk'⟩
    · rw [hk] at hk'; cases hk'; exact Tryz.underlying3
    · rw [hk] at hk'; cases hk'; exact Tryz.underlying22
    · rw [hk] at hk'; cases hk'; exact Tryz.underlying5) h2
  obtain ⟨r, hr⟩ := rl_of zs h3 h4
  exact ⟨r, by rw [hr]; rfl⟩
theorem relayRules_lifted (os : Os) (started : os.Started) (H : Type) (enc : TypeId × Value → H) :
    ReturnsInHanded {} Tryz.checked os 4 .any (Rows.relayRulesSpec.pre6 enc Tryz.prog Tryz.f4 Rows.relayRulesRow.domain false) (Rows.relayRulesSpec.post enc Tryz.prog Tryz.f4 false true false false) := by
  refine returnsInHanded_of_change (C := Tryz.checked) Tryz.own started (by kernel_rfl) Tryz.func4
    (ChangeSpec.witness6 (enc := enc) (C := Tryz.checked) false ⟨#[], #[.agg ((flat (rlP ⟨2, 1#32, 1#32, 1, hd0⟩)).toArray)], []⟩ 8 (by kernel_rfl) (by kernel_rfl) (by kernel_rfl) (by kernel_rfl)) ?_
  intro W base args ds gs before hval0 hW _ _
  have hval : ∀ (j : Nat) t v, Tryz.f4.params[j]? = some t → args[j]? = some v → Value.okWide Tryz.prog W .any base t v := hval0
  have hW' := hW
  obtain ⟨p, q, hA0, hV, rfl, hfz, hnd⟩ := hW
  have hA : DataW.TrodAll enc Tryz.prog W 0 (fun _ => true) true Tryz.f4.params.toList args.toList ds p := hA0
  rw [Tryz.params4] at hA hval
  obtain ⟨v0, d0, rfl, rfl, h0⟩ := trodAll_one hA
  obtain ⟨rfl, rfl⟩ := trodVars_none hV
  obtain ⟨r, rfl⟩ := open_rl (hval 0 30 v0 rfl rfl)
  refine (RelayRules_all r W).mono fun e W' ⟨v, he, hv, hE⟩ => ?_
  subst he; subst hv
  exact ⟨_, rfl, law_post rfl rfl (by intro t ht; rw [Tryz.params4] at ht; simp at ht; subst ht; exact ⟨by kernel_rfl, of_decide_eq_true (by kernel_rfl)⟩) (by kernel_rfl) hW' hE⟩
theorem relayRules_holds : Rows.RelayRulesSaid :=
  OpenClaim.holds_of_wide 4 Tryz.f4 rfl rfl rfl rfl rfl rfl rfl ⟨rfl, rfl, rfl, rfl, rfl⟩ rfl rfl rfl rfl rfl (by kernel_rfl) Tryz.func4 (by kernel_rfl)
    (of_decide_eq_true (by kernel_rfl)) (by unfold Func.isWrapper; first | (rw [if_pos (by decide +kernel)]; kernel_rfl) | (rw [if_neg (by decide +kernel)]; exact ⟨rfl, rfl⟩))
    (fun os started H enc _ => relayRules_lifted os started H enc)
end Go.Proofs.YtjoniieoaokimaaGreat
#print axioms Go.Proofs.YtjoniieoaokimaaGreat.relayRules_holds
