/- The reference's matrix (a slice of vectors): its cells as a function, and the laws by which a walk handles it. Lemmas for the seat's proofs. -/
import Derived.Test.YthjeginhoddmiaaMxBase
import Derived.Laws.MakeOwn
namespace Go.Proofs.Ythjeginhoddmiaa
open Go.RowKit
set_option linter.unusedVariables false
set_option linter.unusedSimpArgs false

/-- the cells of n rows. -/
def rxA (n : Nat) (M : Nat → Nat → Int) : Array Value := Array.ofFn fun i : Fin (n * 16) => Value.int .i64 (M (i.val / 16) (i.val % 16))
theorem rxA_size (n : Nat) (M : Nat → Nat → Int) : (rxA n M).size = n * 16 := by unfold rxA; rw [Array.size_ofFn]
theorem rxA_get (n : Nat) (M : Nat → Nat → Int) (i : Nat) : (rxA n M)[i]? = if i < n * 16 then some (Value.int .i64 (M (i / 16) (i % 16))) else none := by
  unfold rxA
  rw [Array.getElem?_ofFn]
  split <;> simp_all
theorem rxA_getM (n : Nat) (M : Nat → Nat → Int) {r i : Nat} (hr : r < n) (hi : i < 16) : (rxA n M)[r * 16 + i]? = some (.int .i64 (M r i)) := by
  rw [rxA_get, if_pos (by omega), show (r * 16 + i) / 16 = r by omega, show (r * 16 + i) % 16 = i by omega]
/-- row k of the rows' cells. -/
def rowR (cs : Array Value) (k : Nat) : Array Value := cs.extract (k * 16) (k * 16 + 16)
theorem rowR_rx (n : Nat) (M : Nat → Nat → Int) {k : Nat} (hk : k < n) : rowR (rxA n M) k = vv (M k) := by
  apply Array.ext_getElem?
  intro i
  unfold rowR
  rw [Array.getElem?_extract]
  by_cases hi : i < 16
  · rw [if_pos (by rw [rxA_size]; omega), rxA_getM n M hk hi, vv_get (M k) hi]
  · rw [if_neg (by rw [rxA_size]; omega), Array.getElem?_eq_none (by rw [vv_size]; omega)]
theorem rowR_rx0 (n : Nat) (M : Nat → Nat → Int) (hk : 0 < n) : rowR (rxA n M) 0 = vv (M 0) := rowR_rx n M hk
theorem rowR_vv (a : Nat → Int) : rowR (vv a) 0 = vv a := rfl
/-- row k laid anew. -/
def putR (cs : Array Value) (k : Nat) (x : Array Value) : Array Value := (cs.toList.take (k * 16) ++ x.toList ++ cs.toList.drop (k * 16 + 16)).toArray
theorem putR_rx (n : Nat) (M : Nat → Nat → Int) (a : Nat → Int) {k : Nat} (hk : k < n) : putR (rxA n M) k (vv a) = rxA n (setM M k a) := by
  apply Array.ext_getElem?
  intro i
  unfold putR
  have h1 : ((rxA n M).toList.take (k * 16)).length = k * 16 := by rw [List.length_take, Array.length_toList, rxA_size]; omega
  have h2 : (vv a).toList.length = 16 := by rw [Array.length_toList, vv_size]
  rw [List.getElem?_toArray, List.append_assoc]
  by_cases c1 : i < k * 16
  · rw [List.getElem?_append_left (by omega), List.getElem?_take_of_lt c1, Array.getElem?_toList, rxA_get, rxA_get]
    split
    · unfold setM
      rw [if_neg (by omega)]
    · rfl
  · rw [List.getElem?_append_right (by omega), h1]
    by_cases c2 : i < k * 16 + 16
    · rw [List.getElem?_append_left (by omega), Array.getElem?_toList, vv_get a (by omega), rxA_get, if_pos (by omega)]
      unfold setM
      rw [if_pos (by omega), show i % 16 = i - k * 16 by omega]
    · rw [List.getElem?_append_right (by omega), h2, List.getElem?_drop, Array.getElem?_toList, show k * 16 + 16 + (i - k * 16 - 16) = i by omega, rxA_get, rxA_get]
      split
      · unfold setM
        rw [if_neg (by omega)]
      · rfl
theorem putR_vv (a b : Nat → Int) : putR (vv a) 0 (vv b) = vv b := rfl

/-- blocks p and g are a reference's matrix. -/
def RX (w : World) (p g : Nat) (n : Nat) (M : Nat → Nat → Int) : Prop := blk w p = some (.cells #[.slice (some ⟨g, 0, none⟩) n n] 59 (0, 0)) ∧ blk w g = some (.cells (rxA n M) 23 (0, 0))
theorem RX.cell {w : World} {p g n : Nat} {M : Nat → Nat → Int} (h : RX w p g n M) : w.cell? ⟨p, 0, none⟩ = some (.slice (some ⟨g, 0, none⟩) n n) := cell_of_row w p 0 _ _ _ h.1
theorem RX.keep {w w' : World} {p g n : Nat} {M : Nat → Nat → Int} (h : RX w p g n M) (hb : Below w.heap.size w w') : RX w' p g n M := ⟨gblk hb h.1, gblk hb h.2⟩
theorem RX.alloc {w : World} {p g n : Nat} {M : Nat → Nat → Int} (h : RX w p g n M) (o : Obj) : RX (w.alloc o) p g n M := ⟨gblk_alloc o h.1, gblk_alloc o h.2⟩

noncomputable def loadRXs (g k : Nat) (w : World) : Result Next := loadVV (.pointer (some ⟨g, k * 16, none⟩)) w
theorem loadVV_rx (w : World) (g k : Nat) : loadVV (.pointer (some ⟨g, k * 16, none⟩)) w =
    match blk w g with
    | some (.cells cs _ _) => if k * 16 + 16 ≤ cs.size then .ok (.value (.agg (rowR cs k))) w else loadRXs g k w
    | _ => loadRXs g k w := by
  split
  · rename_i cs t fr h
    split
    · rename_i hs
      have hz : (rowR cs k).size = 16 := by unfold rowR; rw [Array.size_extract]; omega
      have hl : (loadCells ⟨g, k * 16, none⟩ (rowR cs k).toList.length).run Try.prog w = .ok (rowR cs k).toList.toArray w :=
        run_loadCells_list (P := Try.prog) w ⟨g, k * 16, none⟩ (rowR cs k).toList (fun j v hv => by
          rw [Go.WideShapes.add_plain, cell_of_row w g (k * 16 + j) cs t fr h]
          have hj : j < 16 := by have := (List.getElem?_eq_some_iff.1 hv).1; simp at this; omega
          rw [Array.getElem?_toList] at hv
          rw [← hv]
          unfold rowR
          rw [Array.getElem?_extract, if_pos (by omega)])
      have hsz : (Go.sizeOf 23).run Try.prog w = .ok 16 w := by kernel_rfl
      have hagg : (isAgg 23).run Try.prog w = .ok true w := by
        unfold isAgg
        rw [Sem.run_bind, run_underlying Try.underlying23 w]
        rfl
      simp only [Array.length_toList, hz, Array.toArray_toList] at hl
      simp [loadVV, Instr.loadAt, Instr.sureAddr, loadVar, Sem.run_bind, hagg, hsz, hl]
    · rfl
  · rfl
noncomputable def loadR0s (g : Nat) (w : World) : Result Next := loadVV (.pointer (some ⟨g, 0, none⟩)) w
theorem loadVV_r0 (w : World) (g : Nat) : loadVV (.pointer (some ⟨g, 0, none⟩)) w =
    match blk w g with
    | some (.cells cs _ _) => if 16 ≤ cs.size then .ok (.value (.agg (rowR cs 0))) w else loadR0s g w
    | _ => loadR0s g w := by
  have h := loadVV_rx w g 0
  rw [Nat.zero_mul] at h
  rw [h]
  split
  · split
    · rfl
    · unfold loadRXs loadR0s; rw [Nat.zero_mul]
  · unfold loadRXs loadR0s; rw [Nat.zero_mul]

noncomputable def storeRXs (g k : Nat) (a : Nat → Int) (w : World) : Result Next := storeVV (.pointer (some ⟨g, k * 16, none⟩)) (.agg (vv a)) w
theorem storeVV_rx (w : World) (g k : Nat) (a : Nat → Int) : storeVV (.pointer (some ⟨g, k * 16, none⟩)) (.agg (vv a)) w =
    match blk w g with
    | some (.cells cs t (0, 0)) => if k * 16 + 16 ≤ cs.size then .ok .skip (w.setRow g (putR cs k (vv a))) else storeRXs g k a w
    | _ => storeRXs g k a w := by
  split
  · rename_i cs t h
    split
    · rename_i hs
      have h2 : (vv a).toList.length = 16 := by rw [Array.length_toList, vv_size]
      have hst := run_storeCells_at Try.prog g (k * 16) t (vv a).toList 0 cs w h (by omega) (fun v hv => (Array.all_eq_true_iff_forall_mem.1 (vv_one a)) v (by simpa using hv))
      have hsz : (Go.sizeOf 23).run Try.prog w = .ok 16 w := by kernel_rfl
      rw [h2, Nat.add_zero] at hst
      simp [storeVV, Instr.storeAt, Instr.sureAddr, storeVar, Sem.run_bind, hsz, Value.cells, vv_size, hst, putR]
    · rfl
  · rfl

/-- rows made. -/
noncomputable def makeVVs (x y : Value) (w : World) : Result Next := (do pure (Next.value (← Instr.makeSlice 57 x y))).run Try.prog w
noncomputable def makeRXs (n : Int) (w : World) : Result Next := makeVVs (.int .i64 n) (.int .i64 n) w
theorem exec_make_vvs (ρ : Operand → Value) (dst : Option Tmp) (x y : Operand) (ty : TypeId) (pos : String) (after : Array Edge) (guard : Option (Nat × Bool)) (w : World) :
    (execOp ρ ⟨dst, .makeSlice 57 x y, ty, pos, after, guard⟩).run Try.prog w = makeVVs (ρ x) (ρ y) w := by kernel_rfl
theorem made_rx (n : Nat) : madeCells (vv z0) (n * 16) = rxA n fun _ => z0 := by
  apply Array.ext_getElem?
  intro i
  rw [rxA_get]
  unfold madeCells
  rw [Array.getElem?_map, Array.getElem?_range]
  by_cases hi : i < n * 16
  · rw [if_pos hi, if_pos hi, Option.map_some, vv_size]
    have hj : i % 16 < 16 := by omega
    rw [Array.getElem!_eq_getD, Array.getD_eq_getD_getElem?, vv_get z0 hj]
    rfl
  · rw [if_neg hi, if_neg hi]; rfl
theorem makeVVs_int (n : Int) (w : World) : makeVVs (.int .i64 n) (.int .i64 n) w =
    if 1 ≤ n ∧ n ≤ 16 then .ok (.value (.slice (some ⟨w.heap.size, 0, none⟩) n.toNat n.toNat)) (w.alloc (.cells (rxA n.toNat fun _ => z0) 23)) else makeRXs n w := by
  split
  · rename_i h
    have hi : (Try.prog.info? 23).map (fun i => (i.size, i.bytes, i.zero)) = some (16, 128, some (.agg (vv z0))) := by kernel_rfl
    obtain ⟨i, h1, h234⟩ := Option.map_eq_some_iff.1 hi
    injection h234 with h2 h34
    injection h34 with h3 h4
    have hr := run_make (P := Try.prog) w 57 23 i (.agg (vv z0)) Try.underlying57 h1 h4 .i64 .i64 n n (by omega) (by omega) (by rw [h3]; omega) (by omega)
    rw [h2] at hr
    simp only [makeVVs, Sem.run_bind, hr, Result.andThen_ok, Sem.run_pure]
    rw [show (Value.agg (vv z0)).cells = vv z0 from rfl, made_rx]
  · rfl

end Go.Proofs.Ythjeginhoddmiaa
