/- Cells of structs and arrays as lists of parts; loads and stores over them. -/
import Derived.Test.YtjoniieoaokimaaGreatVCore
import Derived.Laws.Cells
import Derived.Laws.Rows
set_option linter.unusedVariables false
set_option linter.unusedSimpArgs false
set_option linter.unusedSectionVars false
set_option autoImplicit true
set_option relaxedAutoImplicit true
namespace Go.V
open Go.RowKit (Below)

def one1 : Value → Bool
  | .agg _ | .tuple _ => false
  | _ => true

/-- Some cells that are read and written together, or one by one. -/
structure Part where
  n : Nat
  l : List Value
  len : l.length = n
  one : ∀ v ∈ l, one1 v = true

def P1 (v : Value) (h : one1 v = true := by rfl) : Part := ⟨1, [v], rfl, by simpa using h⟩

def flat : List Part → List Value
  | [] => []
  | p :: ps => p.l ++ flat ps
def total : List Part → Nat
  | [] => 0
  | p :: ps => p.n + total ps
theorem flat_length : ∀ ps, (flat ps).length = total ps
  | [] => rfl
  | p :: ps => by simp [flat, total, flat_length ps, p.len]
theorem flat_append : ∀ a b, flat (a ++ b) = flat a ++ flat b
  | [], _ => rfl
  | p :: ps, b => by simp [flat, flat_append ps b]
theorem flat_one : ∀ ps, ∀ v ∈ flat ps, one1 v = true
  | [], _, h => by cases h
  | p :: ps, v, h => by
    rcases List.mem_append.1 h with h | h
    · exact p.one v h
    · exact flat_one ps v h

def vagg (ps : List Part) : Value := .agg (flat ps).toArray
def obj (T : TypeId) (ps : List Part) : Obj := .cells (flat ps).toArray T (0, 0)

/-! ### one cell -/
def cellAt : List Part → Nat → Option Value
  | [], _ => none
  | p :: ps, off => match Nat.blt off p.n with
    | true => p.l[off]?
    | false => cellAt ps (Nat.sub off p.n)

theorem cellAt_flat : ∀ (ps : List Part) (off : Nat) (v : Value), cellAt ps off = some v → (flat ps)[off]? = some v
  | [], _, _, h => by cases h
  | p :: ps, off, v, h => by
    simp only [cellAt] at h
    cases hb : Nat.blt off p.n with
    | true =>
      rw [hb] at h
      have : off < p.n := by simpa [Nat.blt_eq] using hb
      rw [flat, List.getElem?_append_left (by rw [p.len]; exact this)]
      exact h
    | false =>
      rw [hb] at h
      have : ¬ off < p.n := by intro hlt; rw [← Nat.blt_eq] at hlt; rw [hb] at hlt; cases hlt
      rw [flat, List.getElem?_append_right (by rw [p.len]; omega), p.len]
      exact cellAt_flat ps _ v h

/-! ### spans -/
def rv : List Part → List Part → Option (List Part)
  | [], acc => some acc
  | p :: ps, acc => rv ps (p :: acc)
def takeN : List Part → Nat → List Part → Option (List Part)
  | [], n, acc => match Nat.beq n 0 with
    | true => rv acc []
    | false => none
  | p :: ps, n, acc => match Nat.beq n 0 with
    | true => rv acc []
    | false => match Nat.ble p.n n with
      | true => takeN ps (Nat.sub n p.n) (p :: acc)
      | false => none
def spanAt : List Part → Nat → Nat → Option (List Part)
  | [], off, n => match Nat.beq off 0 with
    | true => takeN [] n []
    | false => none
  | p :: ps, off, n => match Nat.beq off 0 with
    | true => takeN (p :: ps) n []
    | false => match Nat.ble p.n off with
      | true => spanAt ps (Nat.sub off p.n) n
      | false => none

theorem rv_eq : ∀ (ps acc qs : List Part), rv ps acc = some qs → qs = ps.reverse ++ acc
  | [], acc, qs, h => by simp [rv] at h; simp [h]
  | p :: ps, acc, qs, h => by rw [rv_eq ps (p :: acc) qs h]; simp

theorem takeN_eq : ∀ (ps : List Part) (n : Nat) (acc qs : List Part), takeN ps n acc = some qs → ∃ a b, ps = a ++ b ∧ qs = acc.reverse ++ a ∧ total a = n
  | [], n, acc, qs, h => by
    simp only [takeN] at h
    cases hb : Nat.beq n 0 with
    | true => rw [hb] at h; exact ⟨[], [], rfl, by simpa using rv_eq _ _ _ h, (Nat.eq_of_beq_eq_true hb).symm⟩
    | false => rw [hb] at h; cases h
  | p :: ps, n, acc, qs, h => by
    simp only [takeN] at h
    cases hb : Nat.beq n 0 with
    | true => rw [hb] at h; exact ⟨[], p :: ps, rfl, by simpa using rv_eq _ _ _ h, (Nat.eq_of_beq_eq_true hb).symm⟩
    | false =>
      rw [hb] at h
      cases hc : Nat.ble p.n n with
      | false => rw [hc] at h; cases h
      | true =>
        rw [hc] at h
        obtain ⟨a, b, h1, h2, h3⟩ := takeN_eq ps _ _ qs h
        have hle : p.n ≤ n := by simpa using hc
        have h3' : total a = n - p.n := h3
        exact ⟨p :: a, b, by simp [h1], by simp [h2], by simp only [total]; omega⟩

theorem spanAt_eq : ∀ (ps : List Part) (off n : Nat) (qs : List Part), spanAt ps off n = some qs → ∃ a b, ps = a ++ qs ++ b ∧ total a = off ∧ total qs = n
  | [], off, n, qs, h => by
    simp only [spanAt] at h
    cases hb : Nat.beq off 0 with
    | true =>
      rw [hb] at h
      obtain ⟨a, b, h1, h2, h3⟩ := takeN_eq _ _ _ _ h
      simp only [List.reverse_nil, List.nil_append] at h2
      subst h2
      exact ⟨[], b, by simpa using h1, (Nat.eq_of_beq_eq_true hb).symm, h3⟩
    | false => rw [hb] at h; cases h
  | p :: ps, off, n, qs, h => by
    simp only [spanAt] at h
    cases hb : Nat.beq off 0 with
    | true =>
      rw [hb] at h
      obtain ⟨a, b, h1, h2, h3⟩ := takeN_eq _ _ _ _ h
      simp only [List.reverse_nil, List.nil_append] at h2
      subst h2
      exact ⟨[], b, by simpa using h1, (Nat.eq_of_beq_eq_true hb).symm, h3⟩
    | false =>
      rw [hb] at h
      cases hc : Nat.ble p.n off with
      | false => rw [hc] at h; cases h
      | true =>
        rw [hc] at h
        obtain ⟨a, b, h1, h2, h3⟩ := spanAt_eq ps _ n qs h
        have hle : p.n ≤ off := by simpa using hc
        have h2' : total a = off - p.n := h2
        exact ⟨p :: a, b, by simp [h1], by simp only [total]; omega, h3⟩

theorem span_get {ps qs : List Part} {off n : Nat} (h : spanAt ps off n = some qs) (j : Nat) (v : Value) (hj : (flat qs)[j]? = some v) : (flat ps)[off + j]? = some v := by
  obtain ⟨a, b, rfl, h2, h3⟩ := spanAt_eq ps off n qs h
  have hlt : j < (flat qs).length := by
    rcases Nat.lt_or_ge j (flat qs).length with h | h
    · exact h
    · simp [List.getElem?_eq_none h] at hj
  rw [flat_append, flat_append, List.append_assoc, List.getElem?_append_right (by rw [flat_length, h2]; omega), flat_length, h2, Nat.add_sub_cancel_left, List.getElem?_append_left hlt]
  exact hj

theorem span_extract {ps qs : List Part} {off n : Nat} (h : spanAt ps off n = some qs) : (flat ps).toArray.extract off (off + n) = (flat qs).toArray := by
  obtain ⟨a, b, rfl, h2, h3⟩ := spanAt_eq ps off n qs h
  simp only [List.extract_toArray, List.extract_eq_take_drop, Nat.add_sub_cancel_left, flat_append]
  rw [List.append_assoc, List.drop_left' (by rw [flat_length, h2]), List.take_left' (by rw [flat_length, h3])]

/-! ### putting -/
def dropN : List Part → Nat → Option (List Part)
  | [], n => match Nat.beq n 0 with
    | true => some []
    | false => none
  | p :: ps, n => match Nat.beq n 0 with
    | true => some (p :: ps)
    | false => match Nat.ble p.n n with
      | true => dropN ps (Nat.sub n p.n)
      | false => none
def rvNew : List Part → List Part → List Part → Option (List Part)
  | [], acc, rest => rv acc rest
  | p :: ps, acc, rest => rvNew ps (p :: acc) rest
def putNew (ps : List Part) (n : Nat) (news acc : List Part) : Option (List Part) :=
  match dropN ps n with
  | some rest => rvNew news acc rest
  | none => none
def putAt : List Part → Nat → Nat → List Part → List Part → Option (List Part)
  | [], off, n, news, acc => match Nat.beq off 0 with
    | true => putNew [] n news acc
    | false => none
  | p :: ps, off, n, news, acc => match Nat.beq off 0 with
    | true => putNew (p :: ps) n news acc
    | false => match Nat.ble p.n off with
      | true => putAt ps (Nat.sub off p.n) n news (p :: acc)
      | false => none

theorem dropN_eq : ∀ (ps : List Part) (n : Nat) (qs : List Part), dropN ps n = some qs → ∃ a, ps = a ++ qs ∧ total a = n
  | [], n, qs, h => by
    simp only [dropN] at h
    cases hb : Nat.beq n 0 with
    | true => rw [hb] at h; simp at h; exact ⟨[], by simp [h], (Nat.eq_of_beq_eq_true hb).symm⟩
    | false => rw [hb] at h; cases h
  | p :: ps, n, qs, h => by
    simp only [dropN] at h
    cases hb : Nat.beq n 0 with
    | true => rw [hb] at h; simp at h; exact ⟨[], by simp [h], (Nat.eq_of_beq_eq_true hb).symm⟩
    | false =>
      rw [hb] at h
      cases hc : Nat.ble p.n n with
      | false => rw [hc] at h; cases h
      | true =>
        rw [hc] at h
        obtain ⟨a, h1, h2⟩ := dropN_eq ps _ qs h
        have hle : p.n ≤ n := by simpa using hc
        have h2' : total a = n - p.n := h2
        exact ⟨p :: a, by simp [h1], by simp only [total]; omega⟩

theorem rvNew_eq : ∀ (ps acc rest qs : List Part), rvNew ps acc rest = some qs → qs = acc.reverse ++ ps ++ rest
  | [], acc, rest, qs, h => by simpa using rv_eq _ _ _ h
  | p :: ps, acc, rest, qs, h => by rw [rvNew_eq ps (p :: acc) rest qs h]; simp

theorem putAt_eq : ∀ (ps : List Part) (off n : Nat) (news acc qs : List Part), putAt ps off n news acc = some qs →
    ∃ a b c, ps = a ++ b ++ c ∧ qs = acc.reverse ++ a ++ news ++ c ∧ total a = off ∧ total b = n
  | [], off, n, news, acc, qs, h => by
    simp only [putAt] at h
    cases hb : Nat.beq off 0 with
    | false => rw [hb] at h; cases h
    | true =>
      rw [hb] at h
      simp only [putNew] at h
      cases hd : dropN [] n with
      | none => rw [hd] at h; cases h
      | some rest =>
        rw [hd] at h
        obtain ⟨b, h1, h2⟩ := dropN_eq _ _ _ hd
        exact ⟨[], b, rest, by simpa using h1, by simpa using rvNew_eq _ _ _ _ h, (Nat.eq_of_beq_eq_true hb).symm, h2⟩
  | p :: ps, off, n, news, acc, qs, h => by
    simp only [putAt] at h
    cases hb : Nat.beq off 0 with
    | true =>
      rw [hb] at h
      simp only [putNew] at h
      cases hd : dropN (p :: ps) n with
      | none => rw [hd] at h; cases h
      | some rest =>
        rw [hd] at h
        obtain ⟨b, h1, h2⟩ := dropN_eq _ _ _ hd
        exact ⟨[], b, rest, by simpa using h1, by simpa using rvNew_eq _ _ _ _ h, (Nat.eq_of_beq_eq_true hb).symm, h2⟩
    | false =>
      rw [hb] at h
      cases hc : Nat.ble p.n off with
      | false => rw [hc] at h; cases h
      | true =>
        rw [hc] at h
        obtain ⟨a, b, c, h1, h2, h3, h4⟩ := putAt_eq ps _ n news _ qs h
        have hle : p.n ≤ off := by simpa using hc
        have h3' : total a = off - p.n := h3
        exact ⟨p :: a, b, c, by simp [h1], by simp [h2], by simp only [total]; omega, h4⟩

/-- list-level: cs with vs from off on -/
def over (cs : List Value) (off : Nat) (vs : List Value) : List Value := cs.take off ++ vs ++ cs.drop (off + vs.length)

theorem put_flat {ps qs news : List Part} {off n : Nat} (h : putAt ps off n news [] = some qs) (hn : total news = n) : flat qs = over (flat ps) off (flat news) ∧ off + n ≤ (flat ps).length := by
  obtain ⟨a, b, c, rfl, rfl, h3, h4⟩ := putAt_eq ps off n news [] qs h
  simp only [over, flat_append, List.reverse_nil, List.nil_append, flat_length, hn, List.length_append, h3, h4]
  refine ⟨?_, by omega⟩
  rw [List.drop_left' (by rw [List.length_append, flat_length, flat_length, h3, h4]), List.append_assoc (flat a) (flat b), List.take_left' (by rw [flat_length, h3])]

theorem over_over1 (cs : List Value) (off : Nat) (v : Value) (vs : List Value) (h : off < cs.length) : over (cs.set off v) (off + 1) vs = over cs off (v :: vs) := by
  simp only [over, List.length_cons]
  rw [List.take_set, List.drop_set_of_lt (by omega)]
  have h1 : (cs.take (off + 1)).set off v = cs.take off ++ [v] := by
    rw [List.take_succ_eq_append_getElem h, List.set_append_right _ _ (by simp; omega)]
    simp [Nat.min_eq_left (Nat.le_of_lt h)]
  rw [h1]
  simp [Nat.add_assoc, Nat.add_comm 1]

/-! ### worlds -/
theorem run_loadCells {P : Program} {w : World} {b off : Nat} {l : List Value} {T : TypeId} {fr : Nat × Nat} {cs : List Value}
    (hb : w.heap[b]? = some (.cells l.toArray T fr)) (hcs : ∀ j v, cs[j]? = some v → l[off + j]? = some v) :
    (loadCells ⟨b, off, none⟩ cs.length).run P w = .ok cs.toArray w := by
  refine Go.run_loadCells_list w ⟨b, off, none⟩ cs fun j v hj => ?_
  have : (Addr.add ⟨b, off, none⟩ j) = ⟨b, off + j, none⟩ := by
    simp only [Addr.add]; split <;> simp_all
  rw [this]
  simp only [World.cell?, hb]
  simpa using hcs j v hj

theorem run_loadAt_cell {P : Program} {w : World} {b off : Nat} {l : List Value} {T t : TypeId} {fr : Nat × Nat} {d : TypeDesc} {v : Value}
    (ht : P.underlying t = some d) (hd : (match d with | .struct _ | .array _ _ => true | _ => false) = false)
    (hb : w.heap[b]? = some (.cells l.toArray T fr)) (hv : l[off]? = some v) : (Instr.loadAt t (.pointer (some ⟨b, off, none⟩))).run P w = .ok v w := by
  have hc : w.cell? ⟨b, off, none⟩ = some v := by simp only [World.cell?, hb]; simpa using hv
  cases d <;> simp_all [Instr.loadAt, Instr.sureAddr, loadVar, isAgg, underlying, program, load, Sem.run]

theorem run_loadAt_agg {P : Program} {w : World} {b off : Nat} {l : List Value} {T t : TypeId} {fr : Nat × Nat} {d : TypeDesc} {cs : List Value}
    (ht : P.underlying t = some d) (hd : (match d with | .struct _ | .array _ _ => true | _ => false) = true) (hs : P.cellsOf t = cs.length) (hi : (P.info? t).isSome = true)
    (hb : w.heap[b]? = some (.cells l.toArray T fr)) (hcs : ∀ j v, cs[j]? = some v → l[off + j]? = some v) :
    (Instr.loadAt t (.pointer (some ⟨b, off, none⟩))).run P w = .ok (.agg cs.toArray) w := by
  have hl := run_loadCells (P := P) hb hcs
  obtain ⟨i, hi⟩ := Option.isSome_iff_exists.1 hi
  have hsz : i.size = cs.length := by simpa [Program.cellsOf, hi] using hs
  cases d <;> simp_all [Instr.loadAt, Instr.sureAddr, loadVar, isAgg, underlying, program, Sem.run, sizeOf, typeInfo]

theorem storeCells_run {P : Program} : ∀ (vs : List Value) (w : World) (b off i : Nat) (l : List Value) (T : TypeId), w.heap[b]? = some (.cells l.toArray T (0, 0)) →
    off + i + vs.length ≤ l.length → (∀ v ∈ vs, one1 v = true) →
    ∃ w', (storeCells ⟨b, off, none⟩ vs i).run P w = .ok () w' ∧ w'.os = w.os ∧ w'.tape = w.tape ∧ w'.output = w.output ∧ w'.heap.size = w.heap.size ∧
      w'.heap[b]? = some (.cells (over l (off + i) vs).toArray T (0, 0)) ∧ ∀ k, k ≠ b → w'.heap[k]? = w.heap[k]?
  | [], w, b, off, i, l, T, hb, hle, hone => by
    refine ⟨w, rfl, rfl, rfl, rfl, rfl, ?_, fun _ _ => rfl⟩
    simp [over, hb]
  | v :: vs, w, b, off, i, l, T, hb, hle, hone => by
    have hadd : (Addr.add ⟨b, off, none⟩ i) = ⟨b, off + i, none⟩ := by
      simp only [Addr.add]; split <;> simp_all
    have hlt : off + i < l.length := by simp only [List.length_cons] at hle; omega
    have hc : w.cell? ⟨b, off + i, none⟩ = some l[off + i] := by
      simp only [World.cell?, hb]; simp [hlt]
    have hf : w.frozen? ⟨b, off + i, none⟩ = false := by simp [World.frozen?, hb]
    have hb' : (w.setCell ⟨b, off + i, none⟩ v).heap[b]? = some (.cells (l.set (off + i) v).toArray T (0, 0)) := by
      simp [World.setCell, Array.getElem?_modify, hb]
    have hk' : ∀ k, k ≠ b → (w.setCell ⟨b, off + i, none⟩ v).heap[k]? = w.heap[k]? := fun k hk => Go.RowKit.Below.heap_setCell w _ v k (by simpa using hk)
    obtain ⟨w', h1, h2, h3, h4, h5, h6, h7⟩ := storeCells_run (P := P) vs (w.setCell ⟨b, off + i, none⟩ v) b off (i + 1) (l.set (off + i) v) T hb' (by simp only [List.length_set]; simp only [List.length_cons] at hle; omega) (fun u hu => hone u (List.mem_cons_of_mem _ hu))
    refine ⟨w', ?_, h2, h3, h4, by rw [h5]; simp, ?_, fun k hk => by rw [h7 k hk, hk' k hk]⟩
    · have hv : one1 v = true := hone v (by simp)
      cases v <;> first | (simp [one1] at hv; done) | (simp only [storeCells, hadd, Sem.run_bind, store, Sem.run, hc, hf]; simpa [Result.andThen] using h1)
    · rw [h6, ← Nat.add_assoc, over_over1 l (off + i) v vs hlt]

theorem run_storeAt {P : Program} {w : World} {b off n : Nat} {l vs : List Value} {v : Value} {T t : TypeId} {i : TypeInfo}
    (hi : P.info? t = some i) (hn : i.size = n) (hv : v.cells = vs.toArray) (hvn : vs.length = n) (hone : ∀ v ∈ vs, one1 v = true)
    (hb : w.heap[b]? = some (.cells l.toArray T (0, 0))) (hle : off + n ≤ l.length) :
    ∃ w', (Instr.storeAt t (.pointer (some ⟨b, off, none⟩)) v).run P w = .ok () w' ∧ w'.os = w.os ∧ w'.tape = w.tape ∧ w'.output = w.output ∧ w'.heap.size = w.heap.size ∧
      w'.heap[b]? = some (.cells (over l off vs).toArray T (0, 0)) ∧ ∀ k, k ≠ b → w'.heap[k]? = w.heap[k]? := by
  obtain ⟨w', h1, h2⟩ := storeCells_run (P := P) vs w b off 0 l T hb (by omega) hone
  refine ⟨w', ?_, by simpa using h2⟩
  simp [Instr.storeAt, Instr.sureAddr, storeVar, hv, sizeOf, typeInfo, program, Sem.run, hi, hn, hvn, h1]

end Go.V
