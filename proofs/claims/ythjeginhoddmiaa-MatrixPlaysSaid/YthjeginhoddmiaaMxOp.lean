/- A call of See that came in (a replica and a vector: 17 cells), and lists of them. Lemmas for the seat's proofs. -/
import Derived.Test.YthjeginhoddmiaaVecBase
import Derived.Test.YthjeginhoddmiaaVecOpen
-- (64)
namespace Go.Proofs.Ythjeginhoddmiaa
open Go.RowKit
set_option linter.unusedVariables false
set_option linter.unusedSimpArgs false

/-- n cells in a row, where all are there. -/
def rowN (n : Nat) (w : World) (b off : Nat) : Option (Array Value) := ((List.range n).mapM fun j => w.cell? ⟨b, off + j, none⟩).map List.toArray
theorem mapM_range {n : Nat} {f : Nat → Option Value} {l : List Value} (hl : l.length = n) (h : ∀ j, j < n → f j = l[j]?) : (List.range n).mapM f = some l := by
  induction n generalizing l with
  | zero => simp at hl; subst hl; simp
  | succ n ih =>
    have hn := h n (by omega)
    rw [List.getElem?_eq_getElem (by omega)] at hn
    have ht : (l.take n).length = n := by simp; omega
    have hi := ih ht (fun j hj => by rw [h j (by omega), List.getElem?_take_of_lt hj])
    rw [List.range_succ, List.mapM_append, hi]
    simp only [List.mapM_cons, List.mapM_nil, hn, Option.pure_def, Option.bind_eq_bind, Option.bind_some]
    congr 1
    apply List.ext_getElem?
    intro i
    rw [List.getElem?_append]
    by_cases hi' : i < n
    · rw [if_pos (by omega), List.getElem?_take_of_lt hi']
    · rw [if_neg (by omega)]
      by_cases e : i = n
      · subst e; rw [ht]; simp
      · rw [List.getElem?_eq_none (by simp; omega), List.getElem?_eq_none (by omega)]
theorem rowN_of {n : Nat} {w : World} {b off : Nat} {cs : Array Value} (hs : cs.size = n) (h : ∀ j, j < n → w.cell? ⟨b, off + j, none⟩ = cs[j]?) : rowN n w b off = some cs := by
  unfold rowN
  rw [mapM_range (l := cs.toList) (by simpa using hs) (fun j hj => by rw [h j hj]; simp)]
  simp
theorem rowN_cells {n : Nat} {w : World} {b off : Nat} {cs : Array Value} (h : rowN n w b off = some cs) : cs.size = n ∧ ∀ j, j < n → w.cell? ⟨b, off + j, none⟩ = cs[j]? := by
  unfold rowN at h
  obtain ⟨l, hl, rfl⟩ := Option.map_eq_some_iff.1 h
  have h1 := mapM_some_length hl
  exact ⟨by simpa using h1, fun j hj => by have := mapM_some_get hl j j (by simp [hj]); simpa using this⟩
theorem rowN_keep {n : Nat} {w w' : World} {b off : Nat} {cs : Array Value} (hb : Below w.heap.size w w') (h : rowN n w b off = some cs) : rowN n w' b off = some cs := by
  obtain ⟨h1, h2⟩ := rowN_cells h
  refine rowN_of h1 fun j hj => ?_
  have h3 := h2 j hj
  rw [Array.getElem?_eq_getElem (by omega)] at h3 ⊢
  exact gcell hb h3
theorem rowN_drew {n : Nat} {w : World} {b off : Nat} : rowN n w.drew b off = rowN n w b off := rfl
theorem rowN_blk {n : Nat} {w : World} {b : Nat} {cs : Array Value} {t : TypeId} {fr : Nat × Nat} (h : blk w b = some (.cells cs t fr)) (hs : cs.size = n) : rowN n w b 0 = some cs :=
  rowN_of hs fun j _ => by rw [Nat.zero_add]; exact cell_of_row w b j cs t fr h

theorem run_loadVar_rowN {P : Program} {n : Nat} {w : World} {b off : Nat} {cs : Array Value} {ty : TypeId} {d : TypeDesc} (h : rowN n w b off = some cs) (hu : P.underlying ty = some d)
    (hd : (match d with | .struct _ | .array _ _ => true | _ => false) = true) (hi : (P.info? ty).map (·.size) = some n) : (loadVar ty ⟨b, off, none⟩).run P w = .ok (.agg cs) w := by
  obtain ⟨hs, hc⟩ := rowN_cells h
  have hl : (loadCells ⟨b, off, none⟩ cs.toList.length).run P w = .ok cs.toList.toArray w :=
    run_loadCells_list (P := P) w ⟨b, off, none⟩ cs.toList (fun j v hv => by
      have hj : j < n := by have := (List.getElem?_eq_some_iff.1 hv).1; simp at this; omega
      rw [Go.WideShapes.add_plain, hc j hj]
      simpa using hv)
  cases hq : P.info? ty with
  | none => simp [hq] at hi
  | some i =>
    have hs' : i.size = cs.size := by simp [hq] at hi; omega
    have hagg : (isAgg ty).run P w = .ok true w := by
      unfold isAgg
      rw [Sem.run_bind, run_underlying hu w]
      cases d <;> simp_all
    simp only [Array.length_toList, Array.toArray_toList] at hl
    simp [loadVar, Sem.run_bind, hagg, sizeOf, typeInfo, hq, hs', hl]


theorem rowN_grown {n : Nat} {w w' : World} {b off g : Nat} {cs : Array Value} (hg : w.grownBy w' (some g)) (hne : b ≠ g) (h : rowN n w b off = some cs) : rowN n w' b off = some cs := by
  obtain ⟨h1, h2⟩ := rowN_cells h
  refine rowN_of h1 fun j hj => ?_
  have h3 := h2 j hj
  rw [Array.getElem?_eq_getElem (by omega)] at h3 ⊢
  exact hg.cell h3 (fun e => hne (by simpa using e))
noncomputable def loadOps (b off : Nat) (w : World) : Result Next := loadVV (.pointer (some ⟨b, off, none⟩)) w
theorem loadVV_row {w : World} {b off : Nat} {cs : Array Value} (h : rowN 16 w b off = some cs) : loadVV (.pointer (some ⟨b, off, none⟩)) w = .ok (.value (.agg cs)) w := by
  simp only [loadVV, Instr.loadAt, Instr.sureAddr, Sem.run_bind, Sem.run_pure, Result.andThen_ok, run_loadVar_rowN h Try.underlying23 rfl infoVV]
theorem loadVV_op (w : World) (b o k : Nat) : loadVV (.pointer (some ⟨b, o + k * 17 + 1, none⟩)) w = match rowN 16 w b (o + k * 17 + 1) with | some cs => .ok (.value (.agg cs)) w | none => loadOps b (o + k * 17 + 1) w := by
  split
  · rename_i cs h; exact loadVV_row h
  · rfl
theorem loadVV_op1 (w : World) (b : Nat) : loadVV (.pointer (some ⟨b, 1, none⟩)) w = match rowN 16 w b 1 with | some cs => .ok (.value (.agg cs)) w | none => loadOps b 1 w := by
  split
  · rename_i cs h; exact loadVV_row h
  · rfl

/-- a call's cells. -/
def opA (r : Int) (v : Nat → Int) : Array Value := #[Value.int .i64 r, .int .i64 (v 0), .int .i64 (v 1), .int .i64 (v 2), .int .i64 (v 3), .int .i64 (v 4), .int .i64 (v 5), .int .i64 (v 6), .int .i64 (v 7), .int .i64 (v 8), .int .i64 (v 9), .int .i64 (v 10), .int .i64 (v 11), .int .i64 (v 12), .int .i64 (v 13), .int .i64 (v 14), .int .i64 (v 15)]
theorem opA_get0 (r : Int) (v : Nat → Int) : (opA r v)[0]? = some (.int .i64 r) := rfl
theorem opA_get (r : Int) (v : Nat → Int) {i : Nat} (h : i < 16) : (opA r v)[1 + i]? = some (.int .i64 (v i)) := by
  rcases lt16 h with rfl | rfl | rfl | rfl | rfl | rfl | rfl | rfl | rfl | rfl | rfl | rfl | rfl | rfl | rfl | rfl <;> rfl
theorem opA_size (r : Int) (v : Nat → Int) : (opA r v).size = 17 := rfl
theorem op_of {cs : List Value} (h0 : LeavesOk [.int .i64, .int .i64, .int .i64, .int .i64, .int .i64, .int .i64, .int .i64, .int .i64, .int .i64, .int .i64, .int .i64, .int .i64, .int .i64, .int .i64, .int .i64, .int .i64, .int .i64] cs) : ∃ (r : Int) (v : Nat → Int), cs.toArray = opA r v ∧ In64 r ∧ ∀ i, In64 (v i) := by
  obtain ⟨n0, c0, e0, b0, h1⟩ := h0.int
  obtain ⟨n1, c1, e1, b1, h2⟩ := h1.int
  obtain ⟨n2, c2, e2, b2, h3⟩ := h2.int
  obtain ⟨n3, c3, e3, b3, h4⟩ := h3.int
  obtain ⟨n4, c4, e4, b4, h5⟩ := h4.int
  obtain ⟨n5, c5, e5, b5, h6⟩ := h5.int
  obtain ⟨n6, c6, e6, b6, h7⟩ := h6.int
  obtain ⟨n7, c7, e7, b7, h8⟩ := h7.int
  obtain ⟨n8, c8, e8, b8, h9⟩ := h8.int
  obtain ⟨n9, c9, e9, b9, h10⟩ := h9.int
  obtain ⟨n10, c10, e10, b10, h11⟩ := h10.int
  obtain ⟨n11, c11, e11, b11, h12⟩ := h11.int
  obtain ⟨n12, c12, e12, b12, h13⟩ := h12.int
  obtain ⟨n13, c13, e13, b13, h14⟩ := h13.int
  obtain ⟨n14, c14, e14, b14, h15⟩ := h14.int
  obtain ⟨n15, c15, e15, b15, h16⟩ := h15.int
  obtain ⟨n16, c16, e16, b16, h17⟩ := h16.int
  have e := h17.none
  subst e e16 e15 e14 e13 e12 e11 e10 e9 e8 e7 e6 e5 e4 e3 e2 e1 e0
  refine ⟨n0, fn16 [n1, n2, n3, n4, n5, n6, n7, n8, n9, n10, n11, n12, n13, n14, n15, n16], rfl, in64_of b0, fun i => ?_⟩
  by_cases hi : i < 16
  · rcases lt16 hi with rfl | rfl | rfl | rfl | rfl | rfl | rfl | rfl | rfl | rfl | rfl | rfl | rfl | rfl | rfl | rfl
    · exact in64_of b1
    · exact in64_of b2
    · exact in64_of b3
    · exact in64_of b4
    · exact in64_of b5
    · exact in64_of b6
    · exact in64_of b7
    · exact in64_of b8
    · exact in64_of b9
    · exact in64_of b10
    · exact in64_of b11
    · exact in64_of b12
    · exact in64_of b13
    · exact in64_of b14
    · exact in64_of b15
    · exact in64_of b16
  · have : fn16 [n1, n2, n3, n4, n5, n6, n7, n8, n9, n10, n11, n12, n13, n14, n15, n16] i = 0 := by unfold fn16; rw [List.getD_eq_getElem?_getD, List.getElem?_eq_none (by simp; omega)]; rfl
    rw [this]; unfold In64; omega

/-- the cells of list L, from ⟨b, o⟩ on. -/
def OpRows (w : World) (b o : Nat) (L : List (Int × (Nat → Int))) : Prop := ∀ (i : Nat) (h : i < L.length), w.cell? ⟨b, o + i * 17, none⟩ = some (.int .i64 L[i].1) ∧ rowN 16 w b (o + i * 17 + 1) = some (vv L[i].2)
theorem OpRows.keep {w w' : World} {b o : Nat} {L : List (Int × (Nat → Int))} (h : OpRows w b o L) (hb : Below w.heap.size w w') : OpRows w' b o L := fun i hi => ⟨gcell hb (h i hi).1, rowN_keep hb (h i hi).2⟩
theorem OpRows.grown {w w' : World} {b o g : Nat} {L : List (Int × (Nat → Int))} (h : OpRows w b o L) (hg : w.grownBy w' (some g)) (hne : b ≠ g) : OpRows w' b o L := fun i hi => ⟨hg.cell (h i hi).1 (fun e => hne (by simpa using e)), rowN_grown hg hne (h i hi).2⟩
/-- a list of calls that came in. -/
theorem ops_of {w : World} {a : Option Addr} {len cap : Nat} (hl : len ≤ cap) (hm : cap ≤ maxLen) (h : RowsIn [.int .i64, .int .i64, .int .i64, .int .i64, .int .i64, .int .i64, .int .i64, .int .i64, .int .i64, .int .i64, .int .i64, .int .i64, .int .i64, .int .i64, .int .i64, .int .i64, .int .i64] w a len) : ∃ L : List (Int × (Nat → Int)), L.length = len ∧ (L = [] ∨ ∃ b o, a = some ⟨b, o, none⟩ ∧ b < w.heap.size ∧ OpRows w b o L) ∧ ∀ p ∈ L, In64 p.1 ∧ ∀ i, In64 (p.2 i) := by
  rcases h with rfl | ⟨b, o, rfl, hb, h⟩
  · exact ⟨[], rfl, .inl rfl, fun e he => by cases he⟩
  · have h' : ∀ i, i < len → ∃ p : Int × (Nat → Int), (w.cell? ⟨b, o + i * 17, none⟩ = some (.int .i64 p.1) ∧ rowN 16 w b (o + i * 17 + 1) = some (vv p.2)) ∧ In64 p.1 ∧ ∀ i, In64 (p.2 i) := fun i hi => by
      obtain ⟨cs, hcs, hc⟩ := h i hi
      obtain ⟨r, v, he, h1, h2⟩ := op_of hcs
      have hat : ∀ j, j < 17 → w.cell? ⟨b, o + i * 17 + j, none⟩ = (opA r v)[j]? := fun j hj => by
        rw [← he]
        exact (hc j hj).trans (by simp)
      refine ⟨(r, v), ⟨?_, ?_⟩, h1, h2⟩
      · have := hat 0 (by omega); rw [opA_get0] at this; exact this
      · refine rowN_of (vv_size v) fun j hj => ?_
        rw [vv_get v hj, ← opA_get r v hj, ← hat (1 + j) (by omega)]
        congr 2
        omega
    have : Inhabited (Int × (Nat → Int)) := ⟨(0, z0)⟩
    obtain ⟨f, hf⟩ := Deep.choose_lt h'
    refine ⟨(List.range len).map f, by simp, .inr ⟨b, o, rfl, hb, fun i hi => ?_⟩, fun e he => ?_⟩
    · have hi' : i < len := by simpa using hi
      have := (hf i hi').1
      simpa using this
    · obtain ⟨i, hi, rfl⟩ := List.mem_map.1 he
      exact (hf i (by simpa using hi)).2

end Go.Proofs.Ythjeginhoddmiaa
