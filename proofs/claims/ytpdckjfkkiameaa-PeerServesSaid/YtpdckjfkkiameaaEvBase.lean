/- Events (26 cells) as a structure; the laws by which a walk handles them as wholes; slices of events. Lemmas for the seat's proofs. -/
import Derived.Test.YtpdckjfkkiameaaVecBase
import Derived.Test.YtpdckjfkkiameaaVecOpen
namespace Go.Proofs.Ytpdckjfkkiameaa
open Go.RowKit
set_option linter.unusedVariables false

structure Ev where
  r : Int
  n : Int
  t : Int
  deps : Nat → Int
  kind : Int
  key : ByteArray
  field : ByteArray
  value : ByteArray
  num : Int
  rr : Int
  rn : Int

/-- an event's cells. -/
def evA (e : Ev) : Array Value := #[.int .i64 e.r, .int .i64 e.n, .int .i64 e.t, .int .i64 (e.deps 0), .int .i64 (e.deps 1), .int .i64 (e.deps 2), .int .i64 (e.deps 3), .int .i64 (e.deps 4), .int .i64 (e.deps 5), .int .i64 (e.deps 6), .int .i64 (e.deps 7), .int .i64 (e.deps 8), .int .i64 (e.deps 9), .int .i64 (e.deps 10), .int .i64 (e.deps 11), .int .i64 (e.deps 12), .int .i64 (e.deps 13), .int .i64 (e.deps 14), .int .i64 (e.deps 15), .int .i64 e.kind, .string e.key, .string e.field, .string e.value, .int .i64 e.num, .int .i64 e.rr, .int .i64 e.rn]
theorem evA_size (e : Ev) : (evA e).size = 26 := rfl
theorem evA_one (e : Ev) : (evA e).all (·.oneCell') = true := by simp [evA, Value.oneCell']
theorem evA_get0 (e : Ev) : (evA e)[0]? = some (.int .i64 e.r) := rfl
theorem evA_get1 (e : Ev) : (evA e)[1]? = some (.int .i64 e.n) := rfl
theorem evA_get2 (e : Ev) : (evA e)[2]? = some (.int .i64 e.t) := rfl
theorem evA_get19 (e : Ev) : (evA e)[19]? = some (.int .i64 e.kind) := rfl
theorem evA_get20 (e : Ev) : (evA e)[20]? = some (.string e.key) := rfl
theorem evA_get21 (e : Ev) : (evA e)[21]? = some (.string e.field) := rfl
theorem evA_get22 (e : Ev) : (evA e)[22]? = some (.string e.value) := rfl
theorem evA_get23 (e : Ev) : (evA e)[23]? = some (.int .i64 e.num) := rfl
theorem evA_get24 (e : Ev) : (evA e)[24]? = some (.int .i64 e.rr) := rfl
theorem evA_get25 (e : Ev) : (evA e)[25]? = some (.int .i64 e.rn) := rfl
theorem evA_dep (e : Ev) {i : Nat} (h : i < 16) : (evA e)[3 + i]? = some (.int .i64 (e.deps i)) := by
  rcases lt16 h with rfl | rfl | rfl | rfl | rfl | rfl | rfl | rfl | rfl | rfl | rfl | rfl | rfl | rfl | rfl | rfl <;> rfl
def zE : Ev := ⟨0, 0, 0, z0, 0, ByteArray.empty, ByteArray.empty, ByteArray.empty, 0, 0, 0⟩
theorem fold_zE : #[Value.int .i64 0, .int .i64 0, .int .i64 0, .int .i64 0, .int .i64 0, .int .i64 0, .int .i64 0, .int .i64 0, .int .i64 0, .int .i64 0, .int .i64 0, .int .i64 0, .int .i64 0, .int .i64 0, .int .i64 0, .int .i64 0, .int .i64 0, .int .i64 0, .int .i64 0, .int .i64 0, .string ByteArray.empty, .string ByteArray.empty, .string ByteArray.empty, .int .i64 0, .int .i64 0, .int .i64 0] = evA zE := rfl

/-- n cells in a row, where all are there. -/
def rowN (n : Nat) (w : World) (b off : Nat) : Option (Array Value) := ((List.range n).mapM fun j => w.cell? ⟨b, off + j, none⟩).map List.toArray
theorem mapM_range {n : Nat} {f : Nat → Option Value} {l : List Value} (hl : l.length = n) (h : ∀ j, j < n → f j = l[j]?) : (List.range n).mapM f = some l := by
  induction n generalizing l with
  | zero => simp at hl; subst hl; simp
  | succ n ih =>
    have hn := h n (by omega)
    rw [List.getElem?_eq_getElem (by omega)] at hn
    have ht : (l.take n).length = n := by simp; omega
    have hi := ih ht (fun j hj => by rw [h j (by omega), List.getElem?_take_of_lt hj])
    rw [List.range_succ, List.mapM_append, hi]
    simp only [List.mapM_cons, List.mapM_nil, hn, Option.pure_def, Option.bind_eq_bind, Option.bind_some]
    congr 1
    apply List.ext_getElem?
    intro i
    rw [List.getElem?_append]
    by_cases hi' : i < n
    · rw [if_pos (by omega), List.getElem?_take_of_lt hi']
    · rw [if_neg (by omega)]
      by_cases e : i = n
      · subst e; rw [ht]; simp
      · rw [List.getElem?_eq_none (by simp; omega), List.getElem?_eq_none (by omega)]
theorem rowN_of {n : Nat} {w : World} {b off : Nat} {cs : Array Value} (hs : cs.size = n) (h : ∀ j, j < n → w.cell? ⟨b, off + j, none⟩ = cs[j]?) : rowN n w b off = some cs := by
  unfold rowN
  rw [mapM_range (l := cs.toList) (by simpa using hs) (fun j hj => by rw [h j hj]; simp)]
  simp
theorem rowN_cells {n : Nat} {w : World} {b off : Nat} {cs : Array Value} (h : rowN n w b off = some cs) : cs.size = n ∧ ∀ j, j < n → w.cell? ⟨b, off + j, none⟩ = cs[j]? := by
  unfold rowN at h
  obtain ⟨l, hl, rfl⟩ := Option.map_eq_some_iff.1 h
  have h1 := mapM_some_length hl
  exact ⟨by simpa using h1, fun j hj => by have := mapM_some_get hl j j (by simp [hj]); simpa using this⟩
theorem rowN_keep {n : Nat} {w w' : World} {b off : Nat} {cs : Array Value} (hb : Below w.heap.size w w') (h : rowN n w b off = some cs) : rowN n w' b off = some cs := by
  obtain ⟨h1, h2⟩ := rowN_cells h
  refine rowN_of h1 fun j hj => ?_
  have h3 := h2 j hj
  rw [Array.getElem?_eq_getElem (by omega)] at h3 ⊢
  exact gcell hb h3
theorem rowN_drew {n : Nat} {w : World} {b off : Nat} : rowN n w.drew b off = rowN n w b off := rfl
theorem rowN_blk {n : Nat} {w : World} {b : Nat} {cs : Array Value} {t : TypeId} {fr : Nat × Nat} (h : blk w b = some (.cells cs t fr)) (hs : cs.size = n) : rowN n w b 0 = some cs :=
  rowN_of hs fun j _ => by rw [Nat.zero_add]; exact cell_of_row w b j cs t fr h

theorem run_loadVar_rowN {P : Program} {n : Nat} {w : World} {b off : Nat} {cs : Array Value} {ty : TypeId} {d : TypeDesc} (h : rowN n w b off = some cs) (hu : P.underlying ty = some d)
    (hd : (match d with | .struct _ | .array _ _ => true | _ => false) = true) (hi : (P.info? ty).map (·.size) = some n) : (loadVar ty ⟨b, off, none⟩).run P w = .ok (.agg cs) w := by
  obtain ⟨hs, hc⟩ := rowN_cells h
  have hl : (loadCells ⟨b, off, none⟩ cs.toList.length).run P w = .ok cs.toList.toArray w :=
    run_loadCells_list (P := P) w ⟨b, off, none⟩ cs.toList (fun j v hv => by
      have hj : j < n := by have := (List.getElem?_eq_some_iff.1 hv).1; simp at this; omega
      rw [Go.WideShapes.add_plain, hc j hj]
      simpa using hv)
  cases hq : P.info? ty with
  | none => simp [hq] at hi
  | some i =>
    have hs' : i.size = cs.size := by simp [hq] at hi; omega
    have hagg : (isAgg ty).run P w = .ok true w := by
      unfold isAgg
      rw [Sem.run_bind, run_underlying hu w]
      cases d <;> simp_all
    simp only [Array.length_toList, Array.toArray_toList] at hl
    simp [loadVar, Sem.run_bind, hagg, sizeOf, typeInfo, hq, hs', hl]

theorem infoEv : (Try.prog.info? 39).map (·.size) = some 26 := by kernel_rfl
noncomputable def loadEv (v : Value) (w : World) : Result Next := (do pure (Next.value (← Instr.loadAt 39 v))).run Try.prog w
noncomputable def loadEvs (b off : Nat) (w : World) : Result Next := loadEv (.pointer (some ⟨b, off, none⟩)) w
theorem exec_load_ev (ρ : Operand → Value) (dst : Option Tmp) (x : Operand) (ty : TypeId) (pos : String) (after : Array Edge) (guard : Option (Nat × Bool)) (w : World) :
    (execOp ρ ⟨dst, .load 39 x, ty, pos, after, guard⟩).run Try.prog w = loadEv (ρ x) w := rfl
theorem loadEv_at (w : World) (b off : Nat) : loadEv (.pointer (some ⟨b, off, none⟩)) w = match rowN 26 w b off with | some cs => .ok (.value (.agg cs)) w | none => loadEvs b off w := by
  split
  · rename_i cs h
    simp only [loadEv, Instr.loadAt, Instr.sureAddr, Sem.run_bind, Sem.run_pure, Result.andThen_ok, run_loadVar_rowN h Try.underlying39 rfl infoEv]
  · rfl

noncomputable def storeEv (v x : Value) (w : World) : Result Next := (do Instr.storeAt 39 v x; pure Next.skip).run Try.prog w
noncomputable def storeEvs (g : Nat) (a : Ev) (w : World) : Result Next := storeEv (.pointer (some ⟨g, 0, none⟩)) (.agg (evA a)) w
theorem exec_store_ev (ρ : Operand → Value) (dst : Option Tmp) (x y : Operand) (ty : TypeId) (pos : String) (after : Array Edge) (guard : Option (Nat × Bool)) (w : World) :
    (execOp ρ ⟨dst, .store 39 x y, ty, pos, after, guard⟩).run Try.prog w = storeEv (ρ x) (ρ y) w := rfl
theorem storeEv_at (w : World) (g : Nat) (a : Ev) : storeEv (.pointer (some ⟨g, 0, none⟩)) (.agg (evA a)) w =
    match blk w g with
    | some (.cells cs t (0, 0)) => if cs.size = 26 then .ok .skip (w.setRow g (evA a)) else storeEvs g a w
    | _ => storeEvs g a w := by
  split
  · rename_i cs t h
    split
    · rename_i hs
      simp only [storeEv, Instr.storeAt, Instr.sureAddr, Sem.run_bind, Sem.run_pure, Result.andThen_ok, run_storeVar_row w g t 39 cs (evA a) (show w.heap[g]? = _ from h) infoEv (by rw [hs]; rfl) (evA_one a)]
    · rfl
  · rfl
theorem rowN_alloc_new (n : Nat) (w : World) (cs : Array Value) (t : TypeId) (g : Nat) (h : g = w.heap.size) (hs : cs.size = n) : rowN n (w.alloc (.cells cs t)) g 0 = some cs := by
  subst h; subst hs
  exact rowN_blk (gblk_new w _) rfl

theorem rowN_ev_new (w : World) (e : Ev) (t : TypeId) (g : Nat) (h : g = w.heap.size) : rowN 26 (w.alloc (.cells (evA e) t)) g 0 = some (evA e) := rowN_alloc_new 26 w (evA e) t g h rfl

/-- what came in as an event's cells is one. -/
theorem ev_of {cs : List Value} (h0 : LeavesOk [.int .i64, .int .i64, .int .i64, .int .i64, .int .i64, .int .i64, .int .i64, .int .i64, .int .i64, .int .i64, .int .i64, .int .i64, .int .i64, .int .i64, .int .i64, .int .i64, .int .i64, .int .i64, .int .i64, .int .i64, .string, .string, .string, .int .i64, .int .i64, .int .i64] cs) : ∃ e : Ev, cs.toArray = evA e ∧ In64 e.r ∧ In64 e.n ∧ In64 e.t ∧ (∀ i, In64 (e.deps i)) ∧ In64 e.kind ∧ In64 e.num ∧ In64 e.rr ∧ In64 e.rn ∧ e.key.size ≤ maxLen ∧ e.field.size ≤ maxLen ∧ e.value.size ≤ maxLen := by
  obtain ⟨n0, c0, e0, b0, h1⟩ := h0.int
  obtain ⟨n1, c1, e1, b1, h2⟩ := h1.int
  obtain ⟨n2, c2, e2, b2, h3⟩ := h2.int
  obtain ⟨n3, c3, e3, b3, h4⟩ := h3.int
  obtain ⟨n4, c4, e4, b4, h5⟩ := h4.int
  obtain ⟨n5, c5, e5, b5, h6⟩ := h5.int
  obtain ⟨n6, c6, e6, b6, h7⟩ := h6.int
  obtain ⟨n7, c7, e7, b7, h8⟩ := h7.int
  obtain ⟨n8, c8, e8, b8, h9⟩ := h8.int
  obtain ⟨n9, c9, e9, b9, h10⟩ := h9.int
  obtain ⟨n10, c10, e10, b10, h11⟩ := h10.int
  obtain ⟨n11, c11, e11, b11, h12⟩ := h11.int
  obtain ⟨n12, c12, e12, b12, h13⟩ := h12.int
  obtain ⟨n13, c13, e13, b13, h14⟩ := h13.int
  obtain ⟨n14, c14, e14, b14, h15⟩ := h14.int
  obtain ⟨n15, c15, e15, b15, h16⟩ := h15.int
  obtain ⟨n16, c16, e16, b16, h17⟩ := h16.int
  obtain ⟨n17, c17, e17, b17, h18⟩ := h17.int
  obtain ⟨n18, c18, e18, b18, h19⟩ := h18.int
  obtain ⟨n19, c19, e19, b19, h20⟩ := h19.int
  obtain ⟨n20, c20, e20, b20, h21⟩ := h20.str
  obtain ⟨n21, c21, e21, b21, h22⟩ := h21.str
  obtain ⟨n22, c22, e22, b22, h23⟩ := h22.str
  obtain ⟨n23, c23, e23, b23, h24⟩ := h23.int
  obtain ⟨n24, c24, e24, b24, h25⟩ := h24.int
  obtain ⟨n25, c25, e25, b25, h26⟩ := h25.int
  have e := h26.none
  subst e e25 e24 e23 e22 e21 e20 e19 e18 e17 e16 e15 e14 e13 e12 e11 e10 e9 e8 e7 e6 e5 e4 e3 e2 e1 e0
  refine ⟨⟨n0, n1, n2, fn16 [n3, n4, n5, n6, n7, n8, n9, n10, n11, n12, n13, n14, n15, n16, n17, n18], n19, n20, n21, n22, n23, n24, n25⟩, rfl, in64_of b0, in64_of b1, in64_of b2, fun i => ?_, in64_of b19, in64_of b23, in64_of b24, in64_of b25, b20, b21, b22⟩
  by_cases hi : i < 16
  · rcases lt16 hi with rfl | rfl | rfl | rfl | rfl | rfl | rfl | rfl | rfl | rfl | rfl | rfl | rfl | rfl | rfl | rfl
    · exact in64_of b3
    · exact in64_of b4
    · exact in64_of b5
    · exact in64_of b6
    · exact in64_of b7
    · exact in64_of b8
    · exact in64_of b9
    · exact in64_of b10
    · exact in64_of b11
    · exact in64_of b12
    · exact in64_of b13
    · exact in64_of b14
    · exact in64_of b15
    · exact in64_of b16
    · exact in64_of b17
    · exact in64_of b18
  · have : fn16 [n3, n4, n5, n6, n7, n8, n9, n10, n11, n12, n13, n14, n15, n16, n17, n18] i = 0 := by unfold fn16; rw [List.getD_eq_getElem?_getD, List.getElem?_eq_none (by simp; omega)]; rfl
    show In64 (fn16 _ i)
    rw [this]; unfold In64; omega

/-- a slice that holds these events. -/
def EvSl (w : World) (v : Value) (L : List Ev) : Prop :=
  ∃ a cap, v = .slice a L.length cap ∧ L.length ≤ cap ∧ cap ≤ maxLen ∧ (L = [] ∨ ∃ b o, a = some ⟨b, o, none⟩ ∧ ∀ (i : Nat) (h : i < L.length), rowN 26 w b (o + i * 26) = some (evA L[i]))
theorem EvSl.keep {w w' : World} {v : Value} {L : List Ev} (h : EvSl w v L) (hb : Below w.heap.size w w') : EvSl w' v L := by
  obtain ⟨a, cap, rfl, hc, hm, h1 | ⟨b, o, rfl, h1⟩⟩ := h
  · exact ⟨a, cap, rfl, hc, hm, .inl h1⟩
  · exact ⟨_, cap, rfl, hc, hm, .inr ⟨b, o, rfl, fun i hi => rowN_keep hb (h1 i hi)⟩⟩
/-- a slice of events that came in. -/
theorem evs_of {w : World} {a : Option Addr} {len cap : Nat} (hl : len ≤ cap) (hm : cap ≤ maxLen) (h : RowsIn [.int .i64, .int .i64, .int .i64, .int .i64, .int .i64, .int .i64, .int .i64, .int .i64, .int .i64, .int .i64, .int .i64, .int .i64, .int .i64, .int .i64, .int .i64, .int .i64, .int .i64, .int .i64, .int .i64, .int .i64, .string, .string, .string, .int .i64, .int .i64, .int .i64] w a len) : ∃ L : List Ev, L.length = len ∧ EvSl w (.slice a len cap) L ∧ ∀ e ∈ L, In64 e.r ∧ In64 e.n ∧ In64 e.t ∧ (∀ i, In64 (e.deps i)) ∧ In64 e.kind ∧ In64 e.num ∧ In64 e.rr ∧ In64 e.rn ∧ e.key.size ≤ maxLen ∧ e.field.size ≤ maxLen ∧ e.value.size ≤ maxLen := by
  rcases h with rfl | ⟨b, o, rfl, hb, h⟩
  · exact ⟨[], rfl, ⟨a, cap, rfl, hl, hm, .inl rfl⟩, fun e he => by cases he⟩
  · have h' : ∀ i, i < len → ∃ e : Ev, rowN 26 w b (o + i * 26) = some (evA e) ∧ In64 e.r ∧ In64 e.n ∧ In64 e.t ∧ (∀ i, In64 (e.deps i)) ∧ In64 e.kind ∧ In64 e.num ∧ In64 e.rr ∧ In64 e.rn ∧ e.key.size ≤ maxLen ∧ e.field.size ≤ maxLen ∧ e.value.size ≤ maxLen := fun i hi => by
      obtain ⟨cs, hcs, hc⟩ := h i hi
      obtain ⟨e, he, hb⟩ := ev_of hcs
      refine ⟨e, ?_, hb⟩
      rw [← he]
      refine rowN_of (by rw [List.size_toArray, hcs.length]; rfl) fun j hj => ?_
      exact (hc j hj).trans (by simp)
    have : Inhabited Ev := ⟨zE⟩
    obtain ⟨f, hf⟩ := Deep.choose_lt h'
    refine ⟨(List.range len).map f, by simp, ⟨_, cap, by simp, by simpa using hl, hm, .inr ⟨b, o, rfl, fun i hi => ?_⟩⟩, fun e he => ?_⟩
    · have hi' : i < len := by simpa using hi
      have := (hf i hi').1
      simpa using this
    · obtain ⟨i, hi, rfl⟩ := List.mem_map.1 he
      exact (hf i (by simpa using hi)).2

end Go.Proofs.Ytpdckjfkkiameaa
