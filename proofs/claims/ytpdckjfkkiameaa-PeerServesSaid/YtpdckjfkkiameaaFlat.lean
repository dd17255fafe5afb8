/- How a value made of whole numbers, bools and strings (in structs and arrays) that came in reads as a flat list of cells; how a slice of such values lies in memory. No conditions of its own: lemmas for the seat's proofs. -/
import Derived.Test.YtpdckjfkkiameaaRows
import Derived.WalkKit
import Derived.ProofKit
import Derived.OpenShut
import Derived.ShutString
import Derived.ChangeOld
import Derived.Below
import Derived.Deep.Slices
namespace Go.Proofs.Ytpdckjfkkiameaa
open Go.ChangeShapes Go.WideShapes Go.ChangeAt Go.RowKit
set_option linter.unusedVariables false

/-- what one cell may hold. -/
def LeafOk : TypeDesc → Value → Prop
  | .int k, v => ∃ n, v = .int k n ∧ (Lit.int k n).wf = true
  | .bool, v => ∃ b, v = .bool b
  | .string, v => ∃ s : ByteArray, v = .string s ∧ s.size ≤ maxLen
  | _, _ => False

def LeavesOk : List TypeDesc → List Value → Prop
  | [], [] => True
  | l :: ls, v :: vs => LeafOk l v ∧ LeavesOk ls vs
  | _, _ => False

theorem LeavesOk.append : ∀ {ls cs ls' cs'}, LeavesOk ls cs → LeavesOk ls' cs' → LeavesOk (ls ++ ls') (cs ++ cs')
  | [], [], _, _, _, h => h
  | _ :: _, _ :: _, _, _, h, h' => ⟨h.1, LeavesOk.append h.2 h'⟩
  | [], _ :: _, _, _, h, _ => h.elim
  | _ :: _, [], _, _, h, _ => h.elim

theorem LeavesOk.length : ∀ {ls cs}, LeavesOk ls cs → cs.length = ls.length
  | [], [], _ => rfl
  | _ :: _, _ :: _, h => congrArg (· + 1) (LeavesOk.length h.2)
  | [], _ :: _, h => h.elim
  | _ :: _, [], h => h.elim

theorem LeavesOk.int {k : IntKind} {ls : List TypeDesc} {cs : List Value} (h : LeavesOk (.int k :: ls) cs) : ∃ (n : Int) (vs : List Value), cs = .int k n :: vs ∧ (Lit.int k n).wf = true ∧ LeavesOk ls vs := by
  cases cs with
  | nil => exact h.elim
  | cons v vs => obtain ⟨⟨n, hn, hw⟩, h2⟩ := h; subst hn; exact ⟨n, vs, rfl, hw, h2⟩
theorem LeavesOk.bool {ls : List TypeDesc} {cs : List Value} (h : LeavesOk (.bool :: ls) cs) : ∃ (b : Bool) (vs : List Value), cs = .bool b :: vs ∧ LeavesOk ls vs := by
  cases cs with
  | nil => exact h.elim
  | cons v vs => obtain ⟨⟨n, hn⟩, h2⟩ := h; subst hn; exact ⟨n, vs, rfl, h2⟩
theorem LeavesOk.str {ls : List TypeDesc} {cs : List Value} (h : LeavesOk (.string :: ls) cs) : ∃ (s : ByteArray) (vs : List Value), cs = .string s :: vs ∧ s.size ≤ maxLen ∧ LeavesOk ls vs := by
  cases cs with
  | nil => exact h.elim
  | cons v vs => obtain ⟨⟨n, hn, hw⟩, h2⟩ := h; subst hn; exact ⟨n, vs, rfl, hw, h2⟩
theorem LeavesOk.none {cs : List Value} (h : LeavesOk [] cs) : cs = [] := by
  cases cs with
  | nil => rfl
  | cons v vs => exact h.elim

def fieldsFlat (P : Program) (F : TypeId → Option (List TypeDesc)) (tot : Nat) : Nat → List Field → Option (List TypeDesc)
  | off, [] => if off = tot then some [] else none
  | off, f :: fs =>
    match decide (f.offset = off), F f.type, fieldsFlat P F tot (off + P.cellsOf f.type) fs with
    | true, some a, some b => some (a ++ b)
    | _, _, _ => none

/-- the cells of a type, one by one. -/
def flat (P : Program) : Nat → TypeId → Option (List TypeDesc)
  | 0, _ => none
  | n + 1, t =>
    match P.underlying t with
    | some .bool => some [.bool]
    | some (.int k) => some [.int k]
    | some .string => some [.string]
    | some (.struct fs) => fieldsFlat P (flat P n) (P.cellsOf t) 0 fs.toList
    | some (.array m e) => match decide (P.cellsOf t = m * P.cellsOf e), flat P n e with
      | true, some l => some (List.replicate m l).flatten
      | _, _ => none
    | _ => none

section
variable {H : Type} {enc : TypeId × Value → H} {P : Program} {w : World} {base : Nat} {spare : Nat → Bool} {held : Bool}

theorem fieldsFlat_ok {F : TypeId → Option (List TypeDesc)} {cs : List Value} {n : Nat}
    (hF : ∀ t ls, F t = some ls → ∀ cs' x, DataW.trod enc P w base spare held n t cs' = some x → LeavesOk ls cs') :
    ∀ (l : List Field) (off : Nat) (ls : List TypeDesc), (∀ f ∈ l, ∃ y, DataW.trod enc P w base spare held n f.type ((cs.drop f.offset).take (P.cellsOf f.type)) = some y) →
      fieldsFlat P F cs.length off l = some ls → LeavesOk ls (cs.drop off)
  | [], off, ls, _, h => by
    unfold fieldsFlat at h
    split at h
    · rename_i e; cases h; rw [List.drop_of_length_le (by omega)]; trivial
    · cases h
  | f :: l, off, ls, hy, h => by
    unfold fieldsFlat at h
    split at h
    · rename_i a b h1 h2 h3
      cases h
      have e : f.offset = off := by simpa using h1
      obtain ⟨y, hy0⟩ := hy f (by simp)
      have A := hF _ _ h2 _ _ hy0
      have B := fieldsFlat_ok hF l _ _ (fun g hg => hy g (by simp [hg])) h3
      rw [e] at A
      have : cs.drop off = (cs.drop off).take (P.cellsOf f.type) ++ cs.drop (off + P.cellsOf f.type) := by
        rw [← List.drop_drop, List.take_append_drop]
      rw [this]
      exact A.append B
    · cases h

theorem array_ok {cs : List Value} {n m c : Nat} {e : TypeId} {l : List TypeDesc}
    (hF : ∀ cs' x, DataW.trod enc P w base spare held n e cs' = some x → LeavesOk l cs') (hlen : cs.length = m * c)
    (hy : ∀ i, i < m → ∃ y, DataW.trod enc P w base spare held n e ((cs.drop (i * c)).take c) = some y) :
    ∀ j i, i + j = m → LeavesOk (List.replicate j l).flatten (cs.drop (i * c))
  | 0, i, hij => by
    have : i = m := by omega
    subst this
    rw [List.drop_of_length_le (by omega)]
    simp [LeavesOk]
  | j + 1, i, hij => by
    obtain ⟨y, hy0⟩ := hy i (by omega)
    have A := hF _ _ hy0
    have B := array_ok hF hlen hy j (i + 1) (by omega)
    have : cs.drop (i * c) = (cs.drop (i * c)).take c ++ cs.drop ((i + 1) * c) := by
      rw [show (i + 1) * c = i * c + c by rw [Nat.add_mul, Nat.one_mul], ← List.drop_drop, List.take_append_drop]
    rw [this, List.replicate_succ, List.flatten_cons]
    exact A.append B

theorem flat_ok : ∀ (n : Nat) (t : TypeId) (ls : List TypeDesc), flat P n t = some ls → ∀ (fuel : Nat) (cs : List Value) (x : DataW H × List MemPlace),
    DataW.trod enc P w base spare held fuel t cs = some x → LeavesOk ls cs
  | 0, _, _, h, _, _, _, _ => by cases h
  | n + 1, t, ls, h, fuel, cs, x, hx => by
    unfold flat at h
    split at h
    · rename_i hu; cases h
      obtain ⟨b, rfl, _⟩ := DataW.trod_bool hu hx
      exact ⟨⟨b, rfl⟩, trivial⟩
    · rename_i k hu; cases h
      obtain ⟨b, rfl, _, hw⟩ := DataW.trod_int hu hx
      exact ⟨⟨b, rfl, hw⟩, trivial⟩
    · rename_i hu; cases h
      obtain ⟨b, rfl, _, hw⟩ := DataW.trod_string hu hx
      exact ⟨⟨b, rfl, hw⟩, trivial⟩
    · rename_i fs hu
      obtain ⟨xs, m, rfl, _, hlen, hxs, hf⟩ := DataW.trod_struct hu hx
      rw [← hlen] at h
      have := fieldsFlat_ok (cs := cs) (n := m) (F := flat P n) (fun t ls ht cs' x hx => flat_ok n t ls ht m cs' x hx) fs.toList 0 ls (fun f hfm => by
        obtain ⟨i, hi⟩ := List.getElem?_of_mem hfm
        have hi' : fs[i]? = some f := by simpa using hi
        have h2 := hf i f hi'
        have hlt : i < fs.size := (Array.getElem?_eq_some_iff.1 hi').1
        rw [List.getElem?_eq_getElem (by omega)] at h2
        exact ⟨_, h2⟩) h
      simpa using this
    · rename_i m e hu
      obtain ⟨xs, k, rfl, _, hlen, hxs, hf⟩ := DataW.trod_array hu hx
      split at h
      · rename_i l h1 h2
        cases h
        have e1 : P.cellsOf t = m * P.cellsOf e := by simpa using h1
        have := array_ok (cs := cs) (n := k) (m := m) (c := P.cellsOf e) (e := e) (l := l) (fun cs' x hx => flat_ok n e l h2 k cs' x hx) (by omega) (fun i hi => by
          have h3 := hf i hi
          rw [List.getElem?_eq_getElem (by omega)] at h3
          exact ⟨_, h3⟩) m 0 (by omega)
        simpa using this
      · cases h
    · cases h

/-- what a walk is told of a slice that came in: it is empty, or its elements' cells lie in a row. -/
def RowsIn (ls : List TypeDesc) (w : World) (a : Option Addr) (len : Nat) : Prop :=
  len = 0 ∨ ∃ b o, a = some ⟨b, o, none⟩ ∧ b < w.heap.size ∧ ∀ i, i < len → ∃ cs : List Value, LeavesOk ls cs ∧ ∀ j, j < ls.length → w.cell? ⟨b, o + i * ls.length + j, none⟩ = cs[j]?

theorem open_rows {t e : TypeId} {n : Nat} {ls : List TypeDesc} {v : Value} {d : DataW H} {ps : List MemPlace} {r : Reach} (ht : P.underlying t = some (.slice e)) (hf : flat P n e = some ls) (hc : P.cellsOf e = ls.length) (hpos : 0 < ls.length)
    (hok : Value.okWide P w r base t v) (h : DataW.Trod enc P w 0 (fun _ => true) true t v d ps) : ∃ a len cap, v = .slice a len cap ∧ len ≤ cap ∧ cap ≤ maxLen ∧ RowsIn ls w a len := by
  obtain ⟨a, len, cap, rfl⟩ := okWide_slice ht hok
  refine ⟨a, len, cap, rfl, ?_⟩
  obtain ⟨fuel, hx⟩ := h
  rcases Deep.open_slice ht hx with ⟨h0, _⟩ | ⟨a', len', cap', m, k, D, Pl, h0, _, hl, hm, hmm, _, hel⟩
  · simp [Value.cells] at h0
    obtain ⟨rfl, rfl, rfl⟩ := h0
    exact ⟨Nat.le_refl _, by unfold maxLen; omega, .inl rfl⟩
  · simp [Value.cells] at h0
    obtain ⟨rfl, rfl, rfl⟩ := h0
    refine ⟨hl, hm, ?_⟩
    by_cases hz : len = 0
    · exact .inl hz
    · right
      simp at hmm
      subst hmm
      rw [hc] at hel
      have first := hel 0 (by omega)
      obtain ⟨cs0, hc0, _⟩ := first
      obtain ⟨_, hl0, hcell0⟩ := World.cells?_some hc0
      obtain ⟨b, off, spot⟩ := a'
      have h00 := hcell0 0 (by omega)
      rw [List.getElem?_eq_getElem (by omega)] at h00
      have hspot : spot = none := by simpa [Addr.add] using World.cell?_spot h00
      subst hspot
      refine ⟨b, off, rfl, ?_, fun i hi => ?_⟩
      · have := World.block_lt_of_cell? w _ h00
        simpa [Addr.add] using this
      · obtain ⟨cs, hcs, htr⟩ := hel i (by omega)
        obtain ⟨_, hlen, hcell⟩ := World.cells?_some hcs
        refine ⟨cs, flat_ok n e ls hf _ _ _ htr, fun j hj => ?_⟩
        have := hcell j hj
        rw [Deep.add_add, Go.WideShapes.add_plain] at this
        rw [← this, Nat.add_assoc]

/-- a struct or an array that came in by value. -/
theorem open_agg_struct {t : TypeId} {fs : Array Field} {n : Nat} {ls : List TypeDesc} {v : Value} {d : DataW H} {ps : List MemPlace} {r : Reach} (ht : P.underlying t = some (.struct fs)) (hf : flat P n t = some ls)
    (hok : Value.okWide P w r base t v) (h : DataW.Trod enc P w 0 (fun _ => true) true t v d ps) : ∃ cs : List Value, v = .agg cs.toArray ∧ LeavesOk ls cs := by
  unfold Value.okWide at hok
  rw [ht] at hok
  obtain ⟨cs, rfl, _, _⟩ := hok
  obtain ⟨fuel, hx⟩ := h
  exact ⟨cs.toList, by simp, flat_ok n t ls hf _ _ _ (by simpa [Value.cells] using hx)⟩

theorem open_agg_array {t : TypeId} {m : Nat} {e : TypeId} {n : Nat} {ls : List TypeDesc} {v : Value} {d : DataW H} {ps : List MemPlace} {r : Reach} (ht : P.underlying t = some (.array m e)) (hf : flat P n t = some ls)
    (hok : Value.okWide P w r base t v) (h : DataW.Trod enc P w 0 (fun _ => true) true t v d ps) : ∃ cs : List Value, v = .agg cs.toArray ∧ LeavesOk ls cs := by
  unfold Value.okWide at hok
  rw [ht] at hok
  obtain ⟨cs, rfl, _, _⟩ := hok
  obtain ⟨fuel, hx⟩ := h
  exact ⟨cs.toList, by simp, flat_ok n t ls hf _ _ _ (by simpa [Value.cells] using hx)⟩
end
end Go.Proofs.Ytpdckjfkkiameaa
