/- A slice of numbers that is lengthened at its end and shortened at its beginning. Lemmas for the seat's proofs. -/
import Derived.Test.YtpdckjfkkiameaaPrBase
import Derived.Deep.AppendSrc
import Derived.Laws.IdiomStrings
import Derived.Laws.MakeOwn
namespace Go.Proofs.Ytpdckjfkkiameaa
open Go.RowKit
set_option linter.unusedVariables false

/-- a slice of numbers in a block that the call owns (no lower than base), wherever in it. -/
def QI (w : World) (base : Nat) (v : Value) (M : List Int) : Prop :=
  (v = .slice none 0 0 ∧ M = []) ∨ ∃ g off cap cur, v = .slice (some ⟨g, off, none⟩) M.length cap ∧ base ≤ g ∧ blk w g = some (.cells cur 3 (0, 0)) ∧ M.length ≤ cap ∧ cap ≤ maxLen ∧ off + cap ≤ cur.size ∧ ∀ (j : Nat) (h : j < M.length), cur[off + j]? = some (.int .i64 M[j])
theorem QI.nil (w : World) (base : Nat) : QI w base (.slice none 0 0) [] := .inl ⟨rfl, rfl⟩
theorem QI.form {w : World} {base : Nat} {v : Value} {M : List Int} (h : QI w base v M) : ∃ a cap, v = .slice a M.length cap := by
  rcases h with ⟨rfl, rfl⟩ | ⟨g, off, cap, cur, rfl, _⟩
  · exact ⟨none, 0, rfl⟩
  · exact ⟨_, cap, rfl⟩
theorem QI.head {w : World} {base : Nat} {a : Option Addr} {len cap : Nat} {x : Int} {M : List Int} (h : QI w base (.slice a len cap) (x :: M)) : ∃ g off, a = some ⟨g, off, none⟩ ∧ w.cell? ⟨g, off, none⟩ = some (.int .i64 x) := by
  rcases h with ⟨_, h⟩ | ⟨g, off, c, cur, e, _, hg, _, _, _, hc⟩
  · cases h
  · simp only [Value.slice.injEq] at e
    refine ⟨g, off, e.1, ?_⟩
    rw [cell_of_row w g off _ _ _ hg]
    exact hc 0 (by simp)
theorem QI.fr {X : Nat → Prop} {w w' : World} {base : Nat} {v : Value} {M : List Int} (h : QI w base v M) (hf : Fr X w w') (hx : ∀ g cur, blk w g = some (.cells cur 3 (0, 0)) → ¬ X g) : QI w' base v M := by
  rcases h with h | ⟨g, off, c, cur, e, hb, hg, r⟩
  · exact .inl h
  · exact .inr ⟨g, off, c, cur, e, hb, hf.blk (hx g cur hg) hg, r⟩
theorem QI.keep {w w' : World} {base : Nat} {v : Value} {M : List Int} (h : QI w base v M) (hb : Below w.heap.size w w') : QI w' base v M := h.fr (Fr.of_below (X := fun _ => False) hb) (fun _ _ _ => id)

/-- a slice of numbers shortened. -/
noncomputable def sliceI (v l : Value) (w : World) : Result Next := (do pure (Next.value (← Instr.slice 64 v (some l) none none))).run Try.prog w
theorem exec_sliceI (ρ : Operand → Value) (dst : Option Tmp) (x lo : Operand) (ty : TypeId) (pos : String) (after : Array Edge) (guard : Option (Nat × Bool)) (w : World) :
    (execOp ρ ⟨dst, .slice 64 x (some lo) none none, ty, pos, after, guard⟩).run Try.prog w = sliceI (ρ x) (ρ lo) w := by kernel_rfl
theorem sliceI_at (w : World) (a : Option Addr) (len cap : Nat) (l : Int) (h0 : 0 ≤ l) (h1 : l ≤ len) : sliceI (.slice a len cap) (.int .i64 l) w = .ok (.value (.slice (if cap = l.toNat then a else a.map (·.add l.toNat)) (len - l.toNat) (cap - l.toNat))) w := by
  have hu := run_underlying Try.underlying64 w
  have hs : (Go.sizeOf 3).run Try.prog w = .ok 1 w := by kernel_rfl
  simp [sliceI, Instr.slice, Instr.sliceBounds, Instr.sliceBound, asIntOf, Sem.run_bind, hu, hs, h0, h1]
theorem QI.tail {w : World} {base : Nat} {v : Value} {x : Int} {M : List Int} (h : QI w base v (x :: M)) (hm : (M.length : Int) < 4611686018427387904) : ∃ v', QI w base v' M ∧ ∀ w', sliceI v (.int .i64 (mn 1 ((M.length : Int) + 1))) w' = .ok (.value v') w' := by
  have e1 : mn 1 ((M.length : Int) + 1) = 1 := by unfold mn; split <;> omega
  rcases h with ⟨_, h⟩ | ⟨g, off, c, cur, rfl, hb, hg, h1, h2, h3, hc⟩
  · cases h
  · rw [e1]
    simp only [List.length_cons] at h1 hc ⊢
    refine ⟨_, ?_, fun w' => sliceI_at w' _ _ c 1 (by omega) (by omega)⟩
    by_cases hc1 : c = 1
    · subst hc1
      have hM : M = [] := List.eq_nil_of_length_eq_zero (by omega)
      subst hM
      exact .inr ⟨g, off, 0, cur, rfl, hb, hg, by simp, by omega, by omega, fun j hj => absurd hj (by simp)⟩
    · refine .inr ⟨g, off + 1, c - 1, cur, ?_, hb, hg, by omega, by omega, by omega, fun j hj => ?_⟩
      · simp [hc1, Addr.add]
      · have := hc (j + 1) (by omega)
        rw [show off + 1 + j = off + (j + 1) by omega, this]
        simp
theorem QI.stay {w : World} {base : Nat} {v : Value} (h : QI w base v []) : ∃ v', QI w base v' [] ∧ ∀ w', sliceI v (.int .i64 (mn 1 0)) w' = .ok (.value v') w' := by
  have e1 : mn 1 0 = 0 := by unfold mn; split <;> omega
  rw [e1]
  rcases h with ⟨rfl, _⟩ | ⟨g, off, c, cur, rfl, hb, hg, h1, h2, h3, hc⟩
  · exact ⟨_, .inl ⟨by simp, rfl⟩, fun w' => sliceI_at w' none 0 0 0 (by omega) (by omega)⟩
  · refine ⟨_, ?_, fun w' => sliceI_at w' _ _ c 0 (by omega) (by simp)⟩
    refine .inr ⟨g, off, c, cur, ?_, hb, hg, h1, h2, h3, hc⟩
    simp [Addr.add]

theorem infoInt : (Try.prog.info? 3).map (fun i => (i.zero, i.size, i.bytes)) = some (some (.int .i64 0), 1, 8) := by kernel_rfl
theorem append_qi (base : Nat) (ty : TypeId) (w : World) (v : Value) (M : List Int) (x : Int) (sg cs : Nat) (h : QI w base v M) (hx : w.cell? ⟨sg, 0, none⟩ = some (.int .i64 x)) (hn : M.length ≤ 100000) (hbase : base ≤ w.heap.size) :
    ∃ v' w', (Builtin.append_ #[64, 64] ty #[v, .slice (some ⟨sg, 0, none⟩) 1 cs]).run Try.prog w = .ok v' w' ∧ QI w' base v' (M ++ [x]) ∧ w.grownBy w' v.ownBlock := by
  obtain ⟨i, hi, hz0, hz1, hz2⟩ := info_parts infoInt
  have hnews : ∀ (j : Nat) u, [Value.int .i64 x][j]? = some u → w.cell? ((⟨sg, 0, none⟩ : Addr).add j) = some u := fun j u hu => by
    cases j with
    | zero => simp at hu; subst hu; exact hx
    | succ j => simp at hu
  have grown : ∀ (olds : List Value) (need old : Nat), olds.length = M.length → need = M.length + 1 → (∀ (j : Nat) (hj : j < M.length), olds[j]? = some (.int .i64 M[j])) →
      QI (w.drew.alloc (.cells (olds.toArray ++ [Value.int .i64 x].toArray ++ Builtin.zeroCells (Value.int .i64 0).cells (grownCap w need old 3 - need)) 3)) base (.slice (some ⟨w.heap.size, 0, none⟩) need (grownCap w need old 3)) (M ++ [x]) := by
    intro olds need old hl hneed hold
    have hge := grownCap_ge w need old 3
    have hcm : grownCap w need old 3 ≤ maxLen := grownCap_le_maxLen w need old 3 (by unfold maxLen; omega)
    refine .inr ⟨w.heap.size, 0, _, _, by simp [hneed], hbase, gblk_new w.drew _, by simp; omega, hcm, ?_, fun j hj => ?_⟩
    · have hz : (Value.int .i64 0).cells.size = 1 := rfl
      simp only [Array.size_append, List.size_toArray, size_zeroCells, hl, hz, List.length_cons, List.length_nil]
      omega
    · have hj' : j < M.length + 1 := by simpa using hj
      rw [Nat.zero_add, Array.getElem?_append_left (by simp [hl]; omega)]
      by_cases h1 : j < M.length
      · rw [Array.getElem?_append_left (by simp [hl]; omega), List.getElem?_toArray, hold j h1, List.getElem_append_left h1]
      · have e : j = M.length := by omega
        subst e
        rw [Array.getElem?_append_right (by simp [hl])]
        simp [hl]
  rcases h with ⟨rfl, rfl⟩ | ⟨g, off, c, cur, rfl, hb, hg, h1, h2, h3, hc⟩
  · have hr := run_append_nil (P := Try.prog) w 64 ty 3 i (.int .i64 0) Try.underlying64 hi hz0 ⟨sg, 0, none⟩ 1 cs [.int .i64 x] (by rw [hz1]; rfl) hnews (by omega) (by omega) (by rw [hz2]; omega)
    refine ⟨_, _, hr, ?_, ⟨rfl, rfl, rfl, by simp, fun k hk _ => heap_alloc_old w.drew _ hk⟩⟩
    have := grown [] 1 0 rfl rfl (fun j hj => absurd hj (by simp))
    simpa using this
  · by_cases hroom : M.length + 1 ≤ c
    · have hcl : ∀ j, off + j < cur.size → (w.cell? ⟨g, off + j, none⟩).isSome = true := fun j hj => by
        rw [cell_of_row w g _ _ _ _ hg, Array.getElem?_eq_getElem hj]; rfl
      have hr := run_append_room_src (P := Try.prog) w 64 64 ty 3 i Try.underlying64 hi g off M.length c (.slice (some ⟨sg, 0, none⟩) 1 cs) 1 [.int .i64 x]
        (Src.ofSlice w Try.underlying64 ⟨sg, 0, none⟩ 1 cs [.int .i64 x] (by rw [hz1]; rfl) hnews (by simp [Value.oneCell'])) hroom
        (fun j hj => by
          have : j = 0 := by simpa using hj
          subst this
          rw [hz1, Nat.mul_one, Nat.add_zero]
          exact hcl M.length (by omega))
        (fun j _ => frozen_of_row w g _ _ _ hg)
      rw [hz1, Nat.mul_one] at hr
      refine ⟨_, _, hr, ?_, ?_⟩
      · have hb2 : blk (w.setCell ⟨g, off + M.length, none⟩ (.int .i64 x)) g = some (.cells (cur.setIfInBounds (off + M.length) (.int .i64 x)) 3 (0, 0)) := by rw [blk_setCell, if_pos rfl, hg]
        refine .inr ⟨g, off, c, _, by simp, hb, hb2, by simp; omega, h2, by simp; omega, fun j hj => ?_⟩
        have hj' : j < M.length + 1 := by simpa using hj
        rw [Array.getElem?_setIfInBounds]
        by_cases hjm : j < M.length
        · rw [if_neg (by omega), hc j hjm, List.getElem_append_left hjm]
        · have e : j = M.length := by omega
          subst e
          rw [if_pos rfl, if_pos (by omega)]
          simp
      · exact ⟨rfl, rfl, rfl, by simp [World.setCells], fun k hk hne => heap_setCell_other w ⟨g, off + M.length, none⟩ k _ (fun e => hne (by rw [e]; rfl))⟩
    · have hr := run_append_grow (P := Try.prog) w 64 ty 3 i (.int .i64 0) Try.underlying64 hi hz0 ⟨g, off, none⟩ M.length c (M.map (Value.int .i64)) (by rw [hz1]; simp)
        (fun j u hu => by
          rw [Go.WideShapes.add_plain, cell_of_row w g _ _ _ _ hg]
          rw [List.getElem?_map] at hu
          obtain ⟨m, hm, rfl⟩ := Option.map_eq_some_iff.1 hu
          obtain ⟨hj, rfl⟩ := List.getElem?_eq_some_iff.1 hm
          exact hc j hj)
        ⟨sg, 0, none⟩ 1 cs [.int .i64 x] (by rw [hz1]; rfl) hnews (by omega) (by omega) (growslice_fits (by omega) (by rw [hz2]; omega))
      refine ⟨_, _, hr, ?_, ⟨rfl, rfl, rfl, by simp, fun k hk _ => heap_alloc_old w.drew _ hk⟩⟩
      have := grown (M.map (Value.int .i64)) (M.length + 1) c (by simp) rfl (fun j hj => by simp [hj])
      simpa using this
theorem wpList_append_qi {ops : Array Oper} {rest : List Oper} {o : Oper} {a : Act} {Q : Exit → Act → World → Prop} {w : World} (hgd : o.guard = none) (s y : Operand)
    (ho : o.op = .call { callee := .builtin .append, args := #[s, y], argTypes := #[64, 64] })
    (base : Nat) (v : Value) (M : List Int) (x : Int) (sg cs : Nat) (hs : a.eval s = v) (hx : a.eval y = .slice (some ⟨sg, 0, none⟩) 1 cs) (hown : QI w base v M) (hc : w.cell? ⟨sg, 0, none⟩ = some (.int .i64 x)) (hn : M.length ≤ 100000) (hbase : base ≤ w.heap.size)
    (h : ∀ v' w', Hid (QI w' base v' (M ++ [x])) → Hid (w.grownBy w' v.ownBlock) → wpList Try.prog ops Q rest (a.put o.dst v') w') :
    wpList Try.prog ops Q (o :: rest) a w := by
  refine wpList_plain hgd fun K hK => ?_
  obtain ⟨v', w', hr, h2, h3⟩ := append_qi base o.type w v M x sg cs hown hc hn hbase
  unfold Oper.wp execOp
  simp only [ho, resolve, invoke, builtin, Sem.run_bind, Sem.run_pure, Result.andThen_ok, List.map_toArray, List.map_cons, List.map_nil, hs, hx, hr]
  exact hK _ _ (h v' w' (Lib.hid h2) (Lib.hid h3))

/-! ### so many zero bytes, as a text -/
theorem msk_bd (x : Int) : 0 ≤ bits .and .i64 x 63 ∧ bits .and .i64 x 63 ≤ 63 := by
  have h : (BitVec.ofInt 64 x &&& BitVec.ofInt 64 63).toNat ≤ 63 := by
    rw [BitVec.toNat_and]
    exact Nat.le_trans Nat.and_le_right (by decide)
  show 0 ≤ IntKind.i64.wrap ((BitVec.ofInt 64 x &&& BitVec.ofInt 64 63).toNat : Int) ∧ IntKind.i64.wrap ((BitVec.ofInt 64 x &&& BitVec.ofInt 64 63).toNat : Int) ≤ 63
  generalize (BitVec.ofInt 64 x &&& BitVec.ofInt 64 63).toNat = m at h
  rw [IntKind.wrap_i64]
  omega
def zeros (n : Nat) : ByteArray := ⟨Array.replicate n 0⟩
theorem zeros_size (n : Nat) : (zeros n).size = n := by simp [zeros, ByteArray.size]
noncomputable def makeBs (x y : Value) (w : World) : Result Next := (do pure (Next.value (← Instr.makeSlice 73 x y))).run Try.prog w
noncomputable def makeBss (n : Int) (w : World) : Result Next := makeBs (.int .i64 n) (.int .i64 n) w
theorem exec_makeBs (ρ : Operand → Value) (dst : Option Tmp) (x y : Operand) (ty : TypeId) (pos : String) (after : Array Edge) (guard : Option (Nat × Bool)) (w : World) :
    (execOp ρ ⟨dst, .makeSlice 73 x y, ty, pos, after, guard⟩).run Try.prog w = makeBs (ρ x) (ρ y) w := by kernel_rfl
def zcs (n : Nat) : Array Value := madeCells #[.int .u8 0] n
theorem makeBs_int (n : Int) (w : World) : makeBs (.int .i64 n) (.int .i64 n) w =
    if 0 ≤ n ∧ n ≤ 63 then .ok (.value (.slice (some ⟨w.heap.size, 0, none⟩) n.toNat n.toNat)) (w.alloc (.cells (zcs n.toNat) 5)) else makeBss n w := by
  split
  · rename_i h
    have hi : (Try.prog.info? 5).map (fun i => (i.size, i.bytes, i.zero)) = some (1, 1, some (.int .u8 0)) := by kernel_rfl
    obtain ⟨i, h1, h234⟩ := Option.map_eq_some_iff.1 hi
    injection h234 with h2 h34
    injection h34 with h3 h4
    have hr := run_make (P := Try.prog) w 73 5 i (.int .u8 0) Try.underlying73 h1 h4 .i64 .i64 n n (by omega) (by omega) (by rw [h3]; omega) (by omega)
    rw [h2, Nat.mul_one] at hr
    simp only [makeBs, Sem.run_bind, hr, Result.andThen_ok, Sem.run_pure]
    rfl
  · rfl
noncomputable def convBs (x : Value) (w : World) : Result Next := (do pure (Next.value (← convert 73 9 x))).run Try.prog w
theorem exec_convBs (ρ : Operand → Value) (dst : Option Tmp) (x : Operand) (ty : TypeId) (pos : String) (after : Array Edge) (guard : Option (Nat × Bool)) (w : World) :
    (execOp ρ ⟨dst, .convert 73 9 x, ty, pos, after, guard⟩).run Try.prog w = convBs (ρ x) w := by kernel_rfl
theorem convBs_at (w : World) (n g : Nat) (t : TypeId) (hg : g = w.heap.size) : convBs (.slice (some ⟨g, 0, none⟩) n n) (w.alloc (.cells (zcs n) t)) = .ok (.value (.string (zeros n))) (w.alloc (.cells (zcs n) t)) := by
  subst hg
  have hr := run_convert_bytes_back (P := Try.prog) (w.alloc (.cells (zcs n) t)) 73 9 5 ⟨w.heap.size, 0, none⟩ n (List.replicate n 0) Try.underlying73 Try.underlying5 Try.underlying9
    (fun j hj => by
      rw [Go.WideShapes.add_plain, cell_of_row _ _ _ _ _ _ (gblk_new w _)]
      have hj' : j < n := by simpa using hj
      unfold zcs madeCells
      rw [Array.getElem?_map, Array.getElem?_range, Nat.zero_add, if_pos hj']
      simp [Nat.mod_one])
  rw [List.length_replicate] at hr
  simp only [convBs, Sem.run_bind, hr, Result.andThen_ok, Sem.run_pure]
  unfold zeros
  simp

end Go.Proofs.Ytpdckjfkkiameaa
