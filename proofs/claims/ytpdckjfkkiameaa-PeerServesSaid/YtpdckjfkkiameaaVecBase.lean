/- Vectors (arrays of sixteen numbers) as functions, and the laws by which a walk handles them as wholes. Lemmas for the seat's proofs. -/
import Derived.Test.YtpdckjfkkiameaaRows
import Derived.WalkKit
import Derived.WalkSpells
import Derived.Laws.Rows
import Derived.Lib.Hide
import Derived.Deep.QuietTactic
import Derived.BigQuiet
import Derived.Deep.RegionHeld3
import Derived.Handy
namespace Go.Proofs.Ytpdckjfkkiameaa
open Go.RowKit
set_option linter.unusedVariables false

def mx (x y : Int) : Int := if x < y then y else x
def mn (x y : Int) : Int := if y < x then y else x
theorem bmax2_int (k k' : IntKind) (x y : Int) : Builtin.max2 (.int k x) (.int k' y) = pure (.int k (mx x y)) := by simp only [Builtin.max2, gt_iff_lt, mx]
theorem bmin2_int (k k' : IntKind) (x y : Int) : Builtin.min2 (.int k x) (.int k' y) = pure (.int k (mn x y)) := by simp only [Builtin.min2, mn]
theorem bmax_two (ats : Array TypeId) (ty : TypeId) (a b : Value) : Builtin.max_ ats ty #[a, b] = (Builtin.max2 a b >>= fun s => pure s) := by simp only [Builtin.max_, List.foldlM_cons, List.foldlM_nil]
theorem bmin_two (ats : Array TypeId) (ty : TypeId) (a b : Value) : Builtin.min_ ats ty #[a, b] = (Builtin.min2 a b >>= fun s => pure s) := by simp only [Builtin.min_, List.foldlM_cons, List.foldlM_nil]

/-- the cells of a vector. -/
def vv (a : Nat → Int) : Array Value := #[.int .i64 (a 0), .int .i64 (a 1), .int .i64 (a 2), .int .i64 (a 3), .int .i64 (a 4), .int .i64 (a 5), .int .i64 (a 6), .int .i64 (a 7), .int .i64 (a 8), .int .i64 (a 9), .int .i64 (a 10), .int .i64 (a 11), .int .i64 (a 12), .int .i64 (a 13), .int .i64 (a 14), .int .i64 (a 15)]
def up (a : Nat → Int) (i : Nat) (x : Int) : Nat → Int := fun j => if j = i then x else a j
theorem vv_size (a : Nat → Int) : (vv a).size = 16 := rfl
theorem lt16 {i : Nat} (h : i < 16) : i = 0 ∨ i = 1 ∨ i = 2 ∨ i = 3 ∨ i = 4 ∨ i = 5 ∨ i = 6 ∨ i = 7 ∨ i = 8 ∨ i = 9 ∨ i = 10 ∨ i = 11 ∨ i = 12 ∨ i = 13 ∨ i = 14 ∨ i = 15 := by omega
theorem vv_get (a : Nat → Int) {i : Nat} (h : i < 16) : (vv a)[i]? = some (.int .i64 (a i)) := by
  rcases lt16 h with rfl | rfl | rfl | rfl | rfl | rfl | rfl | rfl | rfl | rfl | rfl | rfl | rfl | rfl | rfl | rfl <;> rfl
theorem vv_set (a : Nat → Int) {i : Nat} (h : i < 16) (x : Int) : (vv a).setIfInBounds i (.int .i64 x) = vv (up a i x) := by
  apply Array.ext_getElem?
  intro j
  rw [Array.getElem?_setIfInBounds]
  by_cases hj : j < 16
  · rw [vv_get _ hj, vv_get _ hj]
    by_cases hij : i = j
    · subst hij; simp [vv_size, h, up]
    · have : ¬ j = i := fun e => hij e.symm
      simp [hij, up, this]
  · have h1 : (vv a)[j]? = none := by simp [vv_size]; omega
    have h2 : (vv (up a i x))[j]? = none := by simp [vv_size]; omega
    rw [h1, h2]
    have : ¬ i = j := by omega
    simp [this]
/-- the vectors agree. -/
def same16 (a b : Nat → Int) : Bool := (List.range 16).all fun i => a i == b i
theorem same16_iff {a b : Nat → Int} : same16 a b = true ↔ ∀ i, i < 16 → a i = b i := by simp [same16]
theorem vv_ext {a b : Nat → Int} (h : ∀ i, i < 16 → a i = b i) : vv a = vv b := by
  unfold vv
  rw [h 0 (by omega), h 1 (by omega), h 2 (by omega), h 3 (by omega), h 4 (by omega), h 5 (by omega), h 6 (by omega), h 7 (by omega), h 8 (by omega), h 9 (by omega), h 10 (by omega), h 11 (by omega), h 12 (by omega), h 13 (by omega), h 14 (by omega), h 15 (by omega)]
theorem same16_of {a b : Nat → Int} (h : ∀ i, i < 16 → a i = b i) : same16 a b = true := same16_iff.2 h
theorem same16_refl (a : Nat → Int) : same16 a a = true := same16_of fun _ _ => rfl

/-- a call that only makes memory keeps what was there. -/
theorem gcell {W W' : World} (h : Below W.heap.size W W') {p : Addr} {v : Value} (hc : W.cell? p = some v) : W'.cell? p = some v := by
  rw [h.cell (World.block_lt_of_cell? W _ hc)]; exact hc
theorem gbelow {W W' w0 : World} (h : Below W.heap.size W W') (hb : Below w0.heap.size w0 W) : Below w0.heap.size w0 W' := hb.trans (h.mono hb.size)
theorem gsize {W W' : World} (h : Below W.heap.size W W') {k : Nat} (hk : k < W.heap.size) : k < W'.heap.size := Nat.lt_of_lt_of_le hk h.size
theorem gfrozen {W W' : World} (h : Below W.heap.size W W') {p : Addr} (hp : p.block < W.heap.size) (hf : W.frozen? p = false) : W'.frozen? p = false := by
  rw [h.frozen hp]; exact hf

/-- the block itself (kept shut from simp's own rules on lists' places). -/
def blk (w : World) (k : Nat) : Option Obj := w.heap[k]?
/-- block g is a variable that holds the vector a. -/
def VBox (w : World) (g : Nat) (a : Nat → Int) : Prop := blk w g = some (.cells (vv a) 35 (0, 0))
theorem VBox.lt {w : World} {g : Nat} {a : Nat → Int} (h : VBox w g a) : g < w.heap.size := by
  unfold VBox blk at h
  exact (Array.getElem?_eq_some_iff.1 h).1
theorem VBox.keep {w w' : World} {g : Nat} {a : Nat → Int} (h : VBox w g a) (hb : Below w.heap.size w w') : VBox w' g a := by
  unfold VBox blk at *
  rw [hb.block g (VBox.lt h)]; exact h
theorem gblk {W W' : World} (h : Below W.heap.size W W') {k : Nat} {o : Obj} (hk : blk W k = some o) : blk W' k = some o := by
  unfold blk at *
  rw [h.block k (Array.getElem?_eq_some_iff.1 hk).1]; exact hk
theorem VBox.cell {w : World} {g : Nat} {a : Nat → Int} (h : VBox w g a) {i : Nat} (hi : i < 16) : w.cell? ⟨g, i, none⟩ = some (.int .i64 (a i)) := by
  rw [cell_of_row w g i _ _ _ h, vv_get a hi]
theorem VBox.frozen {w : World} {g : Nat} {a : Nat → Int} (h : VBox w g a) (i : Nat) : w.frozen? ⟨g, i, none⟩ = false := frozen_of_row w g i _ _ h
theorem VBox.new (w : World) (a : Nat → Int) : VBox (w.alloc (.cells (vv a) 35)) w.heap.size a := heap_alloc_new w _
theorem VBox.alloc {w : World} {g : Nat} {a : Nat → Int} (h : VBox w g a) (o : Obj) : VBox (w.alloc o) g a := by
  unfold VBox blk at *
  show (w.heap.push o)[g]? = _
  rw [Array.getElem?_push, if_neg (Nat.ne_of_lt (VBox.lt h))]; exact h
theorem VBox.drew {w : World} {g : Nat} {a : Nat → Int} (h : VBox w g a) : VBox w.drew g a := h
theorem VBox.set {w : World} {g : Nat} {a : Nat → Int} (h : VBox w g a) {i : Nat} (hi : i < 16) (x : Int) : VBox (w.setCell ⟨g, i, none⟩ (.int .i64 x)) g (up a i x) := by
  unfold VBox blk at *
  rw [heap_setCell_same w g i _ _ _ h, vv_set a hi]
theorem VBox.far {w : World} {g : Nat} {a : Nat → Int} (h : VBox w g a) {p : Addr} (hp : g ≠ p.block) (x : Value) : VBox (w.setCell p x) g a := by
  unfold VBox blk at *
  rw [heap_setCell_other w p g x hp]; exact h
theorem VBox.ext {w : World} {g : Nat} {a b : Nat → Int} (h : VBox w g a) (e : ∀ i, i < 16 → a i = b i) : VBox w g b := by
  unfold VBox blk at *
  rw [h, vv_ext e]

theorem infoVV : (Try.prog.info? 35).map (·.size) = some 16 := by kernel_rfl
theorem run_loadVar_vv {w : World} {g : Nat} {a : Nat → Int} (h : VBox w g a) : (loadVar 35 ⟨g, 0, none⟩).run Try.prog w = .ok (.agg (vv a)) w :=
  run_loadVar_row w g _ _ (vv a) (0, 0) _ h Try.underlying35 rfl infoVV
theorem run_loadAt_vv {w : World} {g : Nat} {a : Nat → Int} (h : VBox w g a) : (Instr.loadAt 35 (.pointer (some ⟨g, 0, none⟩))).run Try.prog w = .ok (.agg (vv a)) w := by
  simp only [Instr.loadAt, Instr.sureAddr, Sem.run_bind, Sem.run_pure, Result.andThen_ok, run_loadVar_vv h]

theorem ne_r2 (n : Nat) : (n = n + 1 + 1) = False := eq_false (by omega)
theorem ne_l2 (n : Nat) : (n + 1 + 1 = n) = False := eq_false (by omega)
theorem ne_r3 (n : Nat) : (n = n + 1 + 1 + 1) = False := eq_false (by omega)
theorem ne_l3 (n : Nat) : (n + 1 + 1 + 1 = n) = False := eq_false (by omega)
theorem ne_r4 (n : Nat) : (n = n + 1 + 1 + 1 + 1) = False := eq_false (by omega)
theorem ne_l4 (n : Nat) : (n + 1 + 1 + 1 + 1 = n) = False := eq_false (by omega)
theorem ne_r5 (n : Nat) : (n = n + 1 + 1 + 1 + 1 + 1) = False := eq_false (by omega)
theorem ne_l5 (n : Nat) : (n + 1 + 1 + 1 + 1 + 1 = n) = False := eq_false (by omega)
theorem ne_r6 (n : Nat) : (n = n + 1 + 1 + 1 + 1 + 1 + 1) = False := eq_false (by omega)
theorem ne_l6 (n : Nat) : (n + 1 + 1 + 1 + 1 + 1 + 1 = n) = False := eq_false (by omega)
theorem ne_r7 (n : Nat) : (n = n + 1 + 1 + 1 + 1 + 1 + 1 + 1) = False := eq_false (by omega)
theorem ne_l7 (n : Nat) : (n + 1 + 1 + 1 + 1 + 1 + 1 + 1 = n) = False := eq_false (by omega)
theorem ne_r8 (n : Nat) : (n = n + 1 + 1 + 1 + 1 + 1 + 1 + 1 + 1) = False := eq_false (by omega)
theorem ne_l8 (n : Nat) : (n + 1 + 1 + 1 + 1 + 1 + 1 + 1 + 1 = n) = False := eq_false (by omega)

def joinF (a b : Nat → Int) : Nat → Int := fun i => mx (a i) (b i)
def meetF (a b : Nat → Int) : Nat → Int := fun i => mn (a i) (b i)
/-- the first k numbers are f's, the rest a's. -/
def upto (k : Nat) (f a : Nat → Int) : Nat → Int := fun i => if i < k then f i else a i
theorem upto_zero (f a : Nat → Int) : upto 0 f a = a := by funext i; simp [upto]
theorem upto_succ (k : Nat) (f a : Nat → Int) : up (upto k f a) k (f k) = upto (k + 1) f a := by
  funext i
  unfold up upto
  by_cases h : i = k
  · subst h; simp
  · by_cases h2 : i < k
    · rw [if_neg h, if_pos h2, if_pos (by omega)]
    · rw [if_neg h, if_neg h2, if_neg (by omega)]
theorem upto_here (k : Nat) (f a : Nat → Int) : upto k f a k = a k := by simp [upto]
theorem upto_full {f a : Nat → Int} : vv (upto 16 f a) = vv f := vv_ext fun i hi => by simp [upto, hi]


def okSeq (x : Int) : Bool := decide (0 ≤ x ∧ x ≤ 1048576)
/-- can the vector be? -/
def rightB (v : Nat → Int) : Bool := (List.range 16).all fun i => okSeq (v i)
theorem rightB_iff {v : Nat → Int} : rightB v = true ↔ ∀ i, i < 16 → 0 ≤ v i ∧ v i ≤ 1048576 := by simp [rightB, okSeq]
theorem rightB_not {v : Nat → Int} {k : Nat} (hk : k < 16) (h : ¬ (0 ≤ v k ∧ v k ≤ 1048576)) : rightB v = false := by
  cases e : rightB v with
  | false => rfl
  | true => exact absurd (rightB_iff.1 e k hk) h

/-- is each number of a at most that of b? -/
def mostB (a b : Nat → Int) : Bool := (List.range 16).all fun i => decide (a i ≤ b i)
theorem mostB_iff {a b : Nat → Int} : mostB a b = true ↔ ∀ i, i < 16 → a i ≤ b i := by simp [mostB]
theorem mostB_not {a b : Nat → Int} {k : Nat} (hk : k < 16) (h : ¬ a k ≤ b k) : mostB a b = false := by
  cases e : mostB a b with
  | false => rfl
  | true => exact absurd (mostB_iff.1 e k hk) h
def cmpI (a b : Nat → Int) : Int := if mostB a b then (if mostB b a then 0 else 1) else if mostB b a then 2 else 3

/-- a whole number of 64 bits. -/
def In64 (x : Int) : Prop := -9223372036854775808 ≤ x ∧ x ≤ 9223372036854775807
/-- how many of b's first k replicas' dots a lacks, held. -/
def lackTo (a b : Nat → Int) : Nat → Int
  | 0 => 0
  | k + 1 => if a k < b k then mn (lackTo a b k + mn (b k - a k) 4611686018427387904) 4611686018427387904 else lackTo a b k
theorem lackTo_succ (a b : Nat → Int) (k : Nat) : lackTo a b (k + 1) = if a k < b k then mn (lackTo a b k + mn (b k - a k) 4611686018427387904) 4611686018427387904 else lackTo a b k := rfl
theorem lackTo_bd (a b : Nat → Int) : ∀ k, 0 ≤ lackTo a b k ∧ lackTo a b k ≤ 4611686018427387904
  | 0 => by unfold lackTo; omega
  | k + 1 => by
    have := lackTo_bd a b k
    rw [lackTo_succ]
    unfold mn
    (repeat' split) <;> omega

theorem usub {x y : Int} (hx : In64 x) (hy : In64 y) (h : x < y) : IntKind.u64.wrap (IntKind.u64.wrap y - IntKind.u64.wrap x) = y - x := by
  unfold In64 at hx hy
  simp only [IntKind.wrap_u64]
  omega
theorem uadd {x y : Int} (hx : 0 ≤ x ∧ x ≤ 4611686018427387904) (hy : 0 ≤ y ∧ y ≤ 4611686018427387904) : IntKind.u64.wrap (x + y) = x + y := by
  simp only [IntKind.wrap_u64]
  omega
theorem mn_bd {x : Int} (h : 0 ≤ x) : 0 ≤ mn x 4611686018427387904 ∧ mn x 4611686018427387904 ≤ 4611686018427387904 := by unfold mn; split <;> omega

theorem mn_step {s d : Int} (hs : 0 ≤ s ∧ s ≤ 4611686018427387904) (hd : 0 ≤ d) : mn (s + mn d 4611686018427387904) 4611686018427387904 = if s + d ≤ 4611686018427387904 then s + d else 4611686018427387904 := by unfold mn; (repeat' split) <;> omega
theorem wrap_low {s d : Int} (hs : 0 ≤ s ∧ s ≤ 4611686018427387904) (hd : d ≤ 4611686018427387904) (h : 9223372036854775807 < s + d) : ∃ q, IntKind.i64.wrap (s + d) = q ∧ wrap64 (s + d) = q ∧ q < 0 := by
  refine ⟨_, rfl, ?_, ?_⟩
  · simp only [IntKind.wrap_i64]; unfold wrap64; omega
  · simp only [IntKind.wrap_i64]
    omega

theorem results_cell_tmp {P : Program} {fn : Func} {p q : Tmp} {ty : TypeId} (h : fn.results = #[.cell p ty, .tmp q]) (tmps : Array Value) (w : World) (g : Nat) (v : Value)
    (hp : tmps.getD p undef = .pointer (some ⟨g, 0, none⟩)) (hl : (loadVar ty ⟨g, 0, none⟩).run P w = .ok v w) :
    (results fn tmps).run P w = .ok (.tuple #[v, tmps.getD q undef]) w := by
  have hp' : tmps[p]?.getD undef = .pointer (some ⟨g, 0, none⟩) := by simpa using hp
  simp [results, h, hp', asAddr, hl]

/-- what Next answers: the dot's two numbers, and the error's. -/
def nextD (v : Nat → Int) (r : Int) : Int × Int × Int := if rightB v = true ∧ 0 ≤ r ∧ r < 16 then (if v r.toNat = 1048576 then (0, 0, 6) else (r, v r.toNat + 1, 0)) else (0, 0, 1)

/-! ### whole vectors in a walk: each operation at once -/
theorem vv_one (a : Nat → Int) : (vv a).all (·.oneCell') = true := by simp [vv, Value.oneCell']
/-- a whole vector loaded: kept shut till the address is known. -/
noncomputable def loadVV (v : Value) (w : World) : Result Next := (do pure (Next.value (← Instr.loadAt 35 v))).run Try.prog w
noncomputable def loadVVs (g : Nat) (w : World) : Result Next := loadVV (.pointer (some ⟨g, 0, none⟩)) w
theorem exec_load_vv (ρ : Operand → Value) (dst : Option Tmp) (x : Operand) (ty : TypeId) (pos : String) (after : Array Edge) (guard : Option (Nat × Bool)) (w : World) :
    (execOp ρ ⟨dst, .load 35 x, ty, pos, after, guard⟩).run Try.prog w = loadVV (ρ x) w := rfl
theorem loadVV_at (w : World) (g : Nat) : loadVV (.pointer (some ⟨g, 0, none⟩)) w =
    match blk w g with
    | some (.cells cs _ _) => if cs.size = 16 then .ok (.value (.agg cs)) w else loadVVs g w
    | _ => loadVVs g w := by
  split
  · rename_i cs t fr h
    split
    · rename_i hs
      simp only [loadVV, Instr.loadAt, Instr.sureAddr, Sem.run_bind, Sem.run_pure, Result.andThen_ok, run_loadVar_row w g t 35 cs fr _ (show w.heap[g]? = _ from h) Try.underlying35 rfl (by rw [hs]; exact infoVV)]
    · rfl
  · rfl

/-- a whole vector stored. -/
noncomputable def storeVV (v x : Value) (w : World) : Result Next := (do Instr.storeAt 35 v x; pure Next.skip).run Try.prog w
noncomputable def storeVVs (g : Nat) (a : Nat → Int) (w : World) : Result Next := storeVV (.pointer (some ⟨g, 0, none⟩)) (.agg (vv a)) w
theorem exec_store_vv (ρ : Operand → Value) (dst : Option Tmp) (x y : Operand) (ty : TypeId) (pos : String) (after : Array Edge) (guard : Option (Nat × Bool)) (w : World) :
    (execOp ρ ⟨dst, .store 35 x y, ty, pos, after, guard⟩).run Try.prog w = storeVV (ρ x) (ρ y) w := rfl
theorem storeVV_at (w : World) (g : Nat) (a : Nat → Int) : storeVV (.pointer (some ⟨g, 0, none⟩)) (.agg (vv a)) w =
    match blk w g with
    | some (.cells cs t (0, 0)) => if cs.size = 16 then .ok .skip (w.setRow g (vv a)) else storeVVs g a w
    | _ => storeVVs g a w := by
  split
  · rename_i cs t h
    split
    · rename_i hs
      simp only [storeVV, Instr.storeAt, Instr.sureAddr, Sem.run_bind, Sem.run_pure, Result.andThen_ok, run_storeVar_row w g t 35 cs (vv a) (show w.heap[g]? = _ from h) infoVV (by rw [hs]; rfl) (vv_one a)]
    · rfl
  · rfl

/-- a vector's number by its place. -/
noncomputable def indexVV (v i : Value) (w : World) : Result Next := (do pure (Next.value (← Instr.index 35 v i))).run Try.prog w
noncomputable def indexVVs (a : Nat → Int) (i : Int) (w : World) : Result Next := indexVV (.agg (vv a)) (.int .i64 i) w
theorem exec_index_vv (ρ : Operand → Value) (dst : Option Tmp) (x i : Operand) (ty : TypeId) (pos : String) (after : Array Edge) (guard : Option (Nat × Bool)) (w : World) :
    (execOp ρ ⟨dst, .index 35 x i, ty, pos, after, guard⟩).run Try.prog w = indexVV (ρ x) (ρ i) w := rfl
theorem indexVV_at (w : World) (a : Nat → Int) (i : Int) : indexVV (.agg (vv a)) (.int .i64 i) w =
    if 0 ≤ i ∧ i < 16 then .ok (.value (.int .i64 (a i.toNat))) w else indexVVs a i w := by
  split
  · rename_i h
    have hk : i.toNat < 16 := by omega
    have hg := vv_get a hk
    have hu := run_underlying Try.underlying35 w
    have hsz : (Go.sizeOf 3).run Try.prog w = .ok 1 w := by kernel_rfl
    simp [indexVV, Instr.index, asIntOf, Sem.run_bind, hu, h, hsz, part, isAgg, hg]
  · rfl

theorem run_part_vv (w : World) (a : Nat → Int) {i : Nat} (h : i < 16) : (part 3 (vv a) i).run Try.prog w = .ok (.int .i64 (a i)) w := by
  have hu3 := run_underlying Try.underlying3 w
  simp [part, isAgg, Sem.run_bind, hu3, vv_get a h]

theorem run_eqIn_vv (w : World) (d : Nat) (a b : Nat → Int) : (Op.equalIn (d + 2) 35 (.agg (vv a)) (.agg (vv b))).run Try.prog w = .ok (same16 a b) w := by
  have hu := run_underlying Try.underlying35 w
  have hsz : (Go.sizeOf 3).run Try.prog w = .ok 1 w := by kernel_rfl
  have key : ∀ l : List Nat, (∀ i ∈ l, i < 16) → (forIn l ((none : Option Bool), ()) fun i _ => do
      let x ← part 3 (vv a) (i * 1)
      let y ← part 3 (vv b) (i * 1)
      let r ← Op.equalIn (d + 1) 3 x y
      if (!r) = true then pure (ForInStep.done (some false, ())) else pure (ForInStep.yield (none, ()))).run Try.prog w = .ok (if l.all fun i => a i == b i then (none, ()) else (some false, ())) w := by
    intro l
    induction l with
    | nil => intro _; simp
    | cons i l ih =>
      intro hl
      have h1 := run_part_vv w a (hl i (by simp))
      have h2 := run_part_vv w b (hl i (by simp))
      have h3 := run_equalIn_int (P := Try.prog) w d 3 .i64 .i64 (a i) (b i) Try.underlying3
      have h4 := ih (fun j hj => hl j (by simp [hj]))
      rw [List.forIn_cons]
      simp only [Nat.mul_one] at h4 ⊢
      simp only [Sem.run_bind, h1, h2, h3, Result.andThen_ok]
      by_cases e : a i = b i
      · have e' : (a i == b i) = true := by simp [e]
        simp only [e', Bool.not_true, Bool.false_eq_true, if_false, Sem.run_pure, Result.andThen_ok, List.all_cons, Bool.true_and]
        exact h4
      · have e' : (a i == b i) = false := by simp [e]
        simp only [e', Bool.not_false, if_true, Sem.run_pure, Result.andThen_ok, List.all_cons, Bool.false_and, Bool.false_eq_true, if_false]
  have k16 := key (List.range' 0 16) (by simp)
  unfold Op.equalIn
  simp only [Sem.run_bind, hu, Result.andThen_ok, hsz, Std.Legacy.Range.forIn_eq_forIn_range']
  rw [show (Std.Legacy.Range.size [:16]) = 16 from rfl, k16]
  have e : ((List.range' 0 16).all fun i => a i == b i) = same16 a b := by unfold same16; rw [List.range_eq_range']
  rw [e]
  cases same16 a b <;> simp
theorem run_eq_vv (w : World) (a b : Nat → Int) : (Op.equal 35 (.agg (vv a)) (.agg (vv b))).run Try.prog w = .ok (same16 a b) w := run_eqIn_vv w 9998 a b
theorem guard_vv (w : World) (op : BinOp) (x y : Operand) (a b : Array Value) : (eqGuard op 35 x y (.agg a) (.agg b)).run Try.prog w = .ok () w := by
  have h : Try.prog.eqGuardType Try.prog.depth 35 = false := by kernel_rfl
  cases op <;> simp [eqGuard, Sem.run_bind, h]

theorem eql_vv (w : World) (a b : Nat → Int) : (binOp .eql 35 (.agg (vv a)) (.agg (vv b))).run Try.prog w = .ok (.bool (same16 a b)) w := by
  simp only [binOp, Sem.run_bind, run_eq_vv, Result.andThen_ok, Sem.run_pure]
theorem neq_vv (w : World) (a b : Nat → Int) : (binOp .neq 35 (.agg (vv a)) (.agg (vv b))).run Try.prog w = .ok (.bool (!same16 a b)) w := by
  simp only [binOp, Sem.run_bind, run_eq_vv, Result.andThen_ok, Sem.run_pure]
/-- two whole vectors held against each other. -/
noncomputable def cmpVV (op : BinOp) (x y : Value) (w : World) : Result Next := (do pure (Next.value (← binOp op 35 x y))).run Try.prog w
noncomputable def eqVV (op : BinOp) (u v : Operand) (x y : Value) (w : World) : Result Next := (do pure (Next.value (← (do eqGuard op 35 u v x y; binOp op 35 x y)))).run Try.prog w
theorem exec_eql_vv (ρ : Operand → Value) (dst : Option Tmp) (x y : Operand) (yt ty : TypeId) (pos : String) (after : Array Edge) (guard : Option (Nat × Bool)) (w : World) :
    (execOp ρ ⟨dst, .binOp .eql 35 x y yt, ty, pos, after, guard⟩).run Try.prog w = eqVV .eql x y (ρ x) (ρ y) w := rfl
theorem exec_neq_vv (ρ : Operand → Value) (dst : Option Tmp) (x y : Operand) (yt ty : TypeId) (pos : String) (after : Array Edge) (guard : Option (Nat × Bool)) (w : World) :
    (execOp ρ ⟨dst, .binOp .neq 35 x y yt, ty, pos, after, guard⟩).run Try.prog w = eqVV .neq x y (ρ x) (ρ y) w := rfl
theorem eqVV_eql (u v : Operand) (w : World) (a b : Nat → Int) : eqVV .eql u v (.agg (vv a)) (.agg (vv b)) w = .ok (.value (.bool (same16 a b))) w := by
  simp only [eqVV, Sem.run_bind, guard_vv, eql_vv, Result.andThen_ok, Sem.run_pure]
theorem eqVV_neq (u v : Operand) (w : World) (a b : Nat → Int) : eqVV .neq u v (.agg (vv a)) (.agg (vv b)) w = .ok (.value (.bool (!same16 a b))) w := by
  simp only [eqVV, Sem.run_bind, guard_vv, neq_vv, Result.andThen_ok, Sem.run_pure]

theorem blk_alloc (w : World) (o : Obj) (k : Nat) : blk (w.alloc o) k = if k = w.heap.size then some o else blk w k := by
  show (w.heap.push o)[k]? = _
  rw [Array.getElem?_push]; rfl
theorem blk_drew (w : World) (k : Nat) : blk w.drew k = blk w k := rfl
theorem blk_drewN (w : World) (n k : Nat) : blk (w.drewN n) k = blk w k := rfl
theorem blk_setRow (w : World) (g k : Nat) (cs : Array Value) : blk (w.setRow g cs) k = if k = g then (match blk w k with | some (.cells _ t fr) => some (.cells cs t fr) | x => x) else blk w k := by
  unfold blk
  split
  · rename_i h; subst h
    simp only [World.setRow, Array.getElem?_modify]
    cases w.heap[k]? with
    | none => rfl
    | some o => cases o <;> rfl
  · rename_i h
    exact setRow_other w g k cs h
theorem blk_setCell (w : World) (g i k : Nat) (v : Value) : blk (w.setCell ⟨g, i, none⟩ v) k = if k = g then (match blk w k with | some (.cells cs t fr) => some (.cells (cs.setIfInBounds i v) t fr) | x => x) else blk w k := by
  unfold blk
  split
  · rename_i h; subst h
    simp only [World.setCell, Array.getElem?_modify]
    cases w.heap[k]? with
    | none => rfl
    | some o => cases o <;> rfl
  · rename_i h
    exact heap_setCell_other w ⟨g, i, none⟩ k v h

theorem gblk_alloc {w : World} {k : Nat} {o : Obj} (O : Obj) (h : blk w k = some o) : blk (w.alloc O) k = some o := by
  rw [blk_alloc, if_neg]
  · exact h
  · unfold blk at h
    exact Nat.ne_of_lt (Array.getElem?_eq_some_iff.1 h).1
theorem gblk_new (w : World) (O : Obj) : blk (w.alloc O) w.heap.size = some O := by rw [blk_alloc, if_pos rfl]

theorem alloc_setRow (w : World) (cs cs' : Array Value) (t : TypeId) (fr : Nat × Nat) (g : Nat) (h : g = w.heap.size) : (w.alloc (.cells cs t fr)).setRow g cs' = w.alloc (.cells cs' t fr) := by
  subst h
  unfold World.setRow World.alloc
  congr 1
  apply Array.ext_getElem?
  intro i
  rw [Array.getElem?_modify]
  by_cases hi : w.heap.size = i
  · subst hi
    simp
  · rw [if_neg hi]
    simp [Array.getElem?_push, Ne.symm hi]
theorem cell_setRow_ne (w : World) (g k i : Nat) (cs : Array Value) (h : ¬ k = g) : (w.setRow g cs).cell? ⟨k, i, none⟩ = w.cell? ⟨k, i, none⟩ := cell_setRow_other w g cs ⟨k, i, none⟩ h

theorem drew_setRow (w : World) (g : Nat) (cs : Array Value) : w.drew.setRow g cs = (w.setRow g cs).drew := rfl
theorem drewN_setRow (w : World) (n g : Nat) (cs : Array Value) : (w.drewN n).setRow g cs = (w.setRow g cs).drewN n := rfl

def z0 : Nat → Int := fun _ => 0
theorem fold_z0 : #[Value.int .i64 0, .int .i64 0, .int .i64 0, .int .i64 0, .int .i64 0, .int .i64 0, .int .i64 0, .int .i64 0, .int .i64 0, .int .i64 0, .int .i64 0, .int .i64 0, .int .i64 0, .int .i64 0, .int .i64 0, .int .i64 0] = vv z0 := rfl

end Go.Proofs.Ytpdckjfkkiameaa
