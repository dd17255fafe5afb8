/- The matrix' block (one number, then sixteen vectors): its cells as a function, and the laws by which a walk handles it. Lemmas for the seat's proofs. -/
import Derived.Test.YthjeginhoddmiaaVecBase
import Derived.Test.YthjeginhoddmiaaVecOpen
import Derived.Laws.CopyRow
import Derived.Lib.Hide
namespace Go.Proofs.Ythjeginhoddmiaa
open Go.RowKit
set_option linter.unusedVariables false
set_option linter.unusedSimpArgs false

/-- the cells of a matrix. -/
def mxA (n : Int) (M : Nat → Nat → Int) : Array Value := Array.ofFn fun i : Fin 257 => if i.val = 0 then Value.int .i64 n else Value.int .i64 (M ((i.val - 1) / 16) ((i.val - 1) % 16))
theorem mxA_size (n : Int) (M : Nat → Nat → Int) : (mxA n M).size = 257 := by unfold mxA; rw [Array.size_ofFn]
theorem mxA_get (n : Int) (M : Nat → Nat → Int) (i : Nat) : (mxA n M)[i]? = if i < 257 then some (if i = 0 then Value.int .i64 n else Value.int .i64 (M ((i - 1) / 16) ((i - 1) % 16))) else none := by
  unfold mxA
  rw [Array.getElem?_ofFn]
  split <;> simp_all
theorem mxA_get0 (n : Int) (M : Nat → Nat → Int) : (mxA n M)[0]? = some (.int .i64 n) := by rw [mxA_get]; rfl
theorem mxA_getM (n : Int) (M : Nat → Nat → Int) {r i : Nat} (hr : r < 16) (hi : i < 16) : (mxA n M)[1 + r * 16 + i]? = some (.int .i64 (M r i)) := by
  rw [mxA_get, if_pos (by omega), if_neg (by omega)]
  rw [show (1 + r * 16 + i - 1) / 16 = r by omega, show (1 + r * 16 + i - 1) % 16 = i by omega]
def setM (M : Nat → Nat → Int) (k : Nat) (a : Nat → Int) : Nat → Nat → Int := fun r => if r = k then a else M r
/-- row k of a matrix' cells. -/
def rowM (cs : Array Value) (k : Nat) : Array Value := cs.extract (1 + k * 16) (1 + k * 16 + 16)
theorem rowM_mx (n : Int) (M : Nat → Nat → Int) {k : Nat} (hk : k < 16) : rowM (mxA n M) k = vv (M k) := by
  apply Array.ext_getElem?
  intro i
  unfold rowM
  rw [Array.getElem?_extract]
  by_cases hi : i < 16
  · rw [if_pos (by rw [mxA_size]; omega), mxA_getM n M hk hi, vv_get (M k) hi]
  · rw [if_neg (by rw [mxA_size]; omega), Array.getElem?_eq_none (by rw [vv_size]; omega)]
/-- row k laid anew. -/
def putM (cs : Array Value) (k : Nat) (x : Array Value) : Array Value := (cs.toList.take (1 + k * 16) ++ x.toList ++ cs.toList.drop (1 + k * 16 + 16)).toArray
theorem putM_mx (n : Int) (M : Nat → Nat → Int) (a : Nat → Int) {k : Nat} (hk : k < 16) : putM (mxA n M) k (vv a) = mxA n (setM M k a) := by
  apply Array.ext_getElem?
  intro i
  unfold putM
  have h1 : ((mxA n M).toList.take (1 + k * 16)).length = 1 + k * 16 := by rw [List.length_take, Array.length_toList, mxA_size]; omega
  have h2 : (vv a).toList.length = 16 := by rw [Array.length_toList, vv_size]
  rw [List.getElem?_toArray, List.append_assoc]
  by_cases c1 : i < 1 + k * 16
  · rw [List.getElem?_append_left (by omega), List.getElem?_take_of_lt c1, Array.getElem?_toList, mxA_get, mxA_get]
    by_cases c0 : i = 0
    · subst c0; rfl
    · rw [if_pos (by omega), if_neg c0, if_pos (by omega), if_neg c0]
      unfold setM
      rw [if_neg (by omega)]
  · rw [List.getElem?_append_right (by omega), h1]
    by_cases c2 : i < 1 + k * 16 + 16
    · rw [List.getElem?_append_left (by omega), Array.getElem?_toList, vv_get a (by omega), mxA_get, if_pos (by omega), if_neg (by omega)]
      unfold setM
      rw [if_pos (by omega), show (i - 1) % 16 = i - (1 + k * 16) by omega]
    · rw [List.getElem?_append_right (by omega), h2, List.getElem?_drop, Array.getElem?_toList, show 1 + k * 16 + 16 + (i - (1 + k * 16) - 16) = i by omega, mxA_get, mxA_get]
      split
      · rw [if_neg (by omega), if_neg (by omega)]
        unfold setM
        rw [if_neg (by omega)]
      · rfl

/-- block g is a matrix. -/
def MX (w : World) (g : Nat) (n : Int) (M : Nat → Nat → Int) : Prop := blk w g = some (.cells (mxA n M) 64 (0, 0))

noncomputable def loadMXs (g k : Nat) (w : World) : Result Next := loadVV (.pointer (some ⟨g, 1 + k * 16, none⟩)) w
theorem loadVV_mx (w : World) (g k : Nat) : loadVV (.pointer (some ⟨g, 1 + k * 16, none⟩)) w =
    match blk w g with
    | some (.cells cs _ _) => if cs.size = 257 ∧ k < 16 then .ok (.value (.agg (rowM cs k))) w else loadMXs g k w
    | _ => loadMXs g k w := by
  split
  · rename_i cs t fr h
    split
    · rename_i hs
      obtain ⟨hs, hk⟩ := hs
      have hz : (rowM cs k).size = 16 := by unfold rowM; rw [Array.size_extract]; omega
      have hl : (loadCells ⟨g, 1 + k * 16, none⟩ (rowM cs k).toList.length).run Try.prog w = .ok (rowM cs k).toList.toArray w :=
        run_loadCells_list (P := Try.prog) w ⟨g, 1 + k * 16, none⟩ (rowM cs k).toList (fun j v hv => by
          rw [Go.WideShapes.add_plain, cell_of_row w g (1 + k * 16 + j) cs t fr h]
          have hj : j < 16 := by have := (List.getElem?_eq_some_iff.1 hv).1; simp at this; omega
          rw [Array.getElem?_toList] at hv
          rw [← hv]
          unfold rowM
          rw [Array.getElem?_extract, if_pos (by omega)])
      have hsz : (Go.sizeOf 23).run Try.prog w = .ok 16 w := by kernel_rfl
      have hagg : (isAgg 23).run Try.prog w = .ok true w := by
        unfold isAgg
        rw [Sem.run_bind, run_underlying Try.underlying23 w]
        rfl
      simp only [Array.length_toList, hz, Array.toArray_toList] at hl
      simp [loadVV, Instr.loadAt, Instr.sureAddr, loadVar, Sem.run_bind, hagg, hsz, hl]
    · rfl
  · rfl

noncomputable def storeMXs (g k : Nat) (a : Nat → Int) (w : World) : Result Next := storeVV (.pointer (some ⟨g, 1 + k * 16, none⟩)) (.agg (vv a)) w
theorem storeVV_mx (w : World) (g k : Nat) (a : Nat → Int) : storeVV (.pointer (some ⟨g, 1 + k * 16, none⟩)) (.agg (vv a)) w =
    match blk w g with
    | some (.cells cs t (0, 0)) => if cs.size = 257 ∧ k < 16 then .ok .skip (w.setRow g (putM cs k (vv a))) else storeMXs g k a w
    | _ => storeMXs g k a w := by
  split
  · rename_i cs t h
    split
    · rename_i hs
      obtain ⟨hs, hk⟩ := hs
      have h2 : (vv a).toList.length = 16 := by rw [Array.length_toList, vv_size]
      have hst := run_storeCells_at Try.prog g (1 + k * 16) t (vv a).toList 0 cs w h (by omega) (fun v hv => (Array.all_eq_true_iff_forall_mem.1 (vv_one a)) v (by simpa using hv))
      have hsz : (Go.sizeOf 23).run Try.prog w = .ok 16 w := by kernel_rfl
      rw [h2, Nat.add_zero] at hst
      simp [storeVV, Instr.storeAt, Instr.sureAddr, storeVar, Sem.run_bind, hsz, Value.cells, vv_size, hst, putM]
    · rfl
  · rfl

/-- a matrix built. -/
noncomputable def buildMX (v : Value) (w : World) : Result Next := (do pure (Next.value (← Instr.build 64 #[(0, v)]))).run Try.prog w
theorem exec_build_mx (ρ : Operand → Value) (dst : Option Tmp) (x : Operand) (ty : TypeId) (pos : String) (after : Array Edge) (guard : Option (Nat × Bool)) (w : World) :
    (execOp ρ ⟨dst, .build 64 #[(0, x)], ty, pos, after, guard⟩).run Try.prog w = buildMX (ρ x) w := by kernel_rfl
theorem buildMX_int (n : Int) (w : World) : buildMX (.int .i64 n) w = .ok (.value (.agg (mxA n fun _ => z0))) w := by kernel_rfl
theorem exec_build_mx0 (ρ : Operand → Value) (dst : Option Tmp) (ty : TypeId) (pos : String) (after : Array Edge) (guard : Option (Nat × Bool)) (w : World) :
    (execOp ρ ⟨dst, .build 64 #[], ty, pos, after, guard⟩).run Try.prog w = .ok (.value (.agg (mxA 0 fun _ => z0))) w := by kernel_rfl

end Go.Proofs.Ythjeginhoddmiaa
