/- Lists of events, and append onto a slice of events that the call owns, as a law on lists of events. Lemmas for the seat's proofs. -/
import Derived.Test.YtpdckjfkkiameaaEvBase
import Derived.Maps.AppendAt
import Derived.Laws.OwnMore
import Derived.Lib.Hide
namespace Go.Proofs.Ytpdckjfkkiameaa
open Go.RowKit
set_option linter.unusedVariables false

/-- the cells of events, one behind the other. -/
def evs (L : List Ev) : List Value := L.flatMap fun e => (evA e).toList
theorem evs_length (L : List Ev) : (evs L).length = L.length * 26 := by
  induction L with
  | nil => rfl
  | cons e L ih =>
    have h : evs (e :: L) = (evA e).toList ++ evs L := by simp [evs]
    rw [h, List.length_append, ih, Array.length_toList, evA_size, List.length_cons]; omega
theorem evs_append (L M : List Ev) : evs (L ++ M) = evs L ++ evs M := by simp [evs]
theorem evs_get : ∀ (L : List Ev) (i j : Nat) (h : i < L.length), j < 26 → (evs L)[i * 26 + j]? = (evA L[i])[j]?
  | e :: L, i, j, h, hj => by
    have h1 : evs (e :: L) = (evA e).toList ++ evs L := by simp [evs]
    have hs : (evA e).toList.length = 26 := by simp [evA_size]
    rw [h1]
    cases i with
    | zero =>
      rw [Nat.zero_mul, Nat.zero_add, List.getElem?_append_left (by omega)]
      simp
    | succ i =>
      rw [List.getElem?_append_right (by omega), hs, show (i + 1) * 26 + j - 26 = i * 26 + j by omega, evs_get L i j (by simpa using h) hj]
      simp
theorem evsl_of_cells {w : World} {g cap : Nat} {L : List Ev} (hc : L.length ≤ cap) (hm : cap ≤ maxLen) (h : ∀ j, j < L.length * 26 → w.cell? ⟨g, j, none⟩ = (evs L)[j]?) : EvSl w (.slice (some ⟨g, 0, none⟩) L.length cap) L := by
  refine ⟨_, cap, rfl, hc, hm, .inr ⟨g, 0, rfl, fun i hi => ?_⟩⟩
  refine rowN_of (evA_size _) fun j hj => ?_
  have h1 : i * 26 + j < L.length * 26 := by
    have := Nat.mul_le_mul_right 26 (show i + 1 ≤ L.length from hi)
    omega
  rw [Nat.zero_add, h _ h1, evs_get L i j hi hj]
theorem evsl_blk {w : World} {g cap : Nat} {L : List Ev} {cs : Array Value} {t : TypeId} {fr : Nat × Nat} (hc : L.length ≤ cap) (hm : cap ≤ maxLen) (hb : blk w g = some (.cells cs t fr)) (h : ∀ j, j < L.length * 26 → cs[j]? = (evs L)[j]?) : EvSl w (.slice (some ⟨g, 0, none⟩) L.length cap) L :=
  evsl_of_cells hc hm fun j hj => by rw [cell_of_row w g j cs t fr hb, h j hj]

/-- a slice of events in a block that the call owns (no lower than base). -/
def OwnEv (w : World) (base : Nat) (v : Value) (L : List Ev) : Prop := w.ownsRow base 39 26 v L.length (evs L)
theorem OwnEv.sl {w : World} {base : Nat} {v : Value} {L : List Ev} (h : OwnEv w base v L) : EvSl w v L := by
  rcases h.2 with ⟨rfl, h0⟩ | ⟨g, cap, cur, rfl, hb, hg, hc, hm, hs, ht⟩
  · exact ⟨none, 0, by rw [h0], by omega, by decide, .inl (List.eq_nil_of_length_eq_zero h0)⟩
  · refine evsl_blk (t := 39) (fr := (0, 0)) hc hm hg fun j hj => ?_
    rw [← ht, List.getElem?_take_of_lt hj, Array.getElem?_toList]
theorem OwnEv.nil (w : World) (base : Nat) : OwnEv w base (.slice none 0 0) [] := World.ownsRow_nil _ _ _ _
theorem OwnEv.kept {w w' : World} {base : Nat} {v : Value} {L : List Ev} {row : Option Nat} (h : OwnEv w base v L) (hg : w.grownBy w' row) (hne : v.ownBlock = none ∨ v.ownBlock ≠ row) : OwnEv w' base v L := World.ownsRow.kept h hg hne
theorem OwnEv.alloc {w : World} {base : Nat} {v : Value} {L : List Ev} (h : OwnEv w base v L) (o : Obj) : OwnEv (w.alloc o) base v L := World.ownsRow.alloc h o
theorem OwnEv.below {w w' : World} {base : Nat} {v : Value} {L : List Ev} (h : OwnEv w base v L) (hb : Below w.heap.size w w') : OwnEv w' base v L := by
  refine ⟨h.1, ?_⟩
  rcases h.2 with hn | ⟨g, cap, cur, rfl, hb', hg, rest⟩
  · exact .inl hn
  · exact .inr ⟨g, cap, cur, rfl, hb', by rw [hb.block g (Array.getElem?_eq_some_iff.1 hg).1]; exact hg, rest⟩
theorem OwnEv.ne {w : World} {base k : Nat} {v : Value} {L : List Ev} (h : OwnEv w base v L) (hk : k < base) : some k ≠ v.ownBlock := fun e => by
  have := (World.ownsRow.lt h k e.symm).1; omega
/-- 'make' or a literal with no elements. -/
theorem OwnEv.made (w : World) (base : Nat) (hb : base ≤ w.heap.size) : OwnEv (w.alloc (.cells #[] 39)) base (.slice (some ⟨w.heap.size, 0, none⟩) 0 0) [] :=
  World.ownsRow_made w #[] 0 hb (by decide) rfl
theorem EvSl.grown {w w' : World} {v u : Value} {L M : List Ev} {base : Nat} (h : EvSl w v L) (hg : w.grownBy w' u.ownBlock) (hu : OwnEv w base u M) (hv : ∀ k, v.ownBlock = some k → k < base) : EvSl w' v L := by
  obtain ⟨a, cap, rfl, hc, hm, h1 | ⟨b, o, rfl, h1⟩⟩ := h
  · exact ⟨a, cap, rfl, hc, hm, .inl h1⟩
  · refine ⟨_, cap, rfl, hc, hm, .inr ⟨b, o, rfl, fun i hi => ?_⟩⟩
    obtain ⟨h2, h3⟩ := rowN_cells (h1 i hi)
    refine rowN_of h2 fun j hj => ?_
    have h4 := h3 j hj
    rw [Array.getElem?_eq_getElem (by omega)] at h4 ⊢
    exact hg.cell h4 (hu.ne (hv b rfl))
theorem grown_below {w w' w0 : World} {v : Value} {L : List Ev} {base : Nat} (hg : w.grownBy w' v.ownBlock) (ho : OwnEv w base v L) (hbase : base ≤ w.heap.size) (hb : Below base w0 w) : Below base w0 w' :=
  hb.trans ⟨hg.os, hg.tape, hg.output, hg.size, fun k hk => hg.block k (Nat.lt_of_lt_of_le hk hbase) (ho.ne hk)⟩

theorem fold_ev1 (e : Ev) : Array.foldl (fun (cs : Array Value) (x : Value × Nat) => cs.setIfInBounds x.snd x.fst) #[Value.int IntKind.i64 0, Value.int IntKind.i64 0, Value.int IntKind.i64 0, Value.int IntKind.i64 0, Value.int IntKind.i64 0, Value.int IntKind.i64 0, Value.int IntKind.i64 0, Value.int IntKind.i64 0, Value.int IntKind.i64 0, Value.int IntKind.i64 0, Value.int IntKind.i64 0, Value.int IntKind.i64 0, Value.int IntKind.i64 0, Value.int IntKind.i64 0, Value.int IntKind.i64 0, Value.int IntKind.i64 0, Value.int IntKind.i64 0, Value.int IntKind.i64 0, Value.int IntKind.i64 0, Value.int IntKind.i64 0, Value.string { data := #[] }, Value.string { data := #[] }, Value.string { data := #[] }, Value.int IntKind.i64 0, Value.int IntKind.i64 0, Value.int IntKind.i64 0] (evA e).zipIdx 0 26 = evA e := by simp [evA]

theorem infoEvAll : (Try.prog.info? 39).map (fun i => (i.zero, i.size, i.bytes)) = some (some (.agg (evA zE)), 26, 232) := by kernel_rfl
theorem evs_one (L : List Ev) : ∀ u ∈ evs L, u.oneCell' = true := by
  intro u hu
  unfold evs at hu
  obtain ⟨e, _, he⟩ := List.mem_flatMap.1 hu
  have := evA_one e
  rw [Array.all_eq_true_iff_forall_mem] at this
  exact this u (by simpa using he)
theorem run_append_none' {P : Program} {w : World} (base : Nat) (t ty e : TypeId) (i : TypeInfo) (size : Nat) (ht : P.underlying t = some (.slice e)) (hi : P.info? e = some i)
    (v : Value) (n : Nat) (xs : List Value) (c : Nat) (hown : w.ownsRow base e size v n xs) :
    (Builtin.append_ #[t, t] ty #[v, .slice none 0 c]).run P w = .ok v w := by
  rcases hown.2 with ⟨rfl, rfl⟩ | ⟨g, cap, cur, rfl, _, _, hnc, _⟩
  · simp [Builtin.append_, run_underlying ht, sizeOf, typeInfo, hi, Builtin.lenOf, Builtin.firstCells]
  · simp [Builtin.append_, run_underlying ht, sizeOf, typeInfo, hi, Builtin.lenOf, Builtin.firstCells, hnc, storeCells]

theorem append_ev (base : Nat) (ty : TypeId) (w : World) (v x : Value) (L M : List Ev) (ho : OwnEv w base v L) (hx : EvSl w x M) (hn : L.length + M.length ≤ 600000000000) (hbase : base ≤ w.heap.size) :
    ∃ v' w', (Builtin.append_ #[27, 27] ty #[v, x]).run Try.prog w = .ok v' w' ∧ OwnEv w' base v' (L ++ M) ∧ w.grownBy w' v.ownBlock ∧ (v'.ownBlock = v.ownBlock ∨ v'.ownBlock = some w.heap.size) := by
  obtain ⟨i0, hi, hz0, hz1, hz2⟩ := info_parts infoEvAll
  obtain ⟨a, cap, rfl, hc, hm, hM⟩ := hx
  have key : ∀ ad : Addr, (∀ j u, (evs M)[j]? = some u → w.cell? (ad.add j) = some u) → ∃ v' w', (Builtin.append_ #[27, 27] ty #[v, .slice (some ad) M.length cap]).run Try.prog w = .ok v' w' ∧ OwnEv w' base v' (L ++ M) ∧ w.grownBy w' v.ownBlock ∧ (v'.ownBlock = v.ownBlock ∨ v'.ownBlock = some w.heap.size) := by
    intro ad had
    obtain ⟨v', w', hr, h1, h2, _, h3⟩ := run_append_own_at (P := Try.prog) w base 27 ty 39 i0 (.agg (evA zE)) 26 232 Try.underlying27 hi hz0 hz1 hz2 rfl (by decide) v L.length (evs L) ho ad M.length cap (evs M) (evs_length M) had (evs_one M) (by unfold maxLen; omega) (by omega) hbase
    refine ⟨v', w', hr, ?_, h2, h3⟩
    unfold OwnEv
    rw [List.length_append, evs_append]
    exact h1
  rcases hM with rfl | ⟨b, o, rfl, hrow⟩
  · cases a with
    | some ad => exact key ad (by intro j u hu; simp [evs] at hu)
    | none =>
      refine ⟨v, w, run_append_none' base _ _ 39 i0 26 Try.underlying27 hi v L.length (evs L) cap ho, ?_, ⟨rfl, rfl, rfl, Nat.le_refl _, fun _ _ _ => rfl⟩, .inl rfl⟩
      rw [List.append_nil]; exact ho
  · refine key _ fun j u hu => ?_
    have hlt : j < M.length * 26 := by have := (List.getElem?_eq_some_iff.1 hu).1; rw [evs_length] at this; exact this
    have hi : j / 26 < M.length := by omega
    have hj : j % 26 < 26 := by omega
    have e1 := evs_get M (j / 26) (j % 26) hi hj
    rw [show j / 26 * 26 + j % 26 = j by omega, hu] at e1
    rw [Go.WideShapes.add_plain]
    have h2 := (rowN_cells (hrow _ hi)).2 (j % 26) hj
    rw [← e1] at h2
    rw [← h2]
    congr 2
    omega

theorem wpList_append_ev {ops : Array Oper} {rest : List Oper} {o : Oper} {a : Act} {Q : Exit → Act → World → Prop} {w : World} (hgd : o.guard = none) (s x : Operand)
    (ho : o.op = .call { callee := .builtin .append, args := #[s, x], argTypes := #[27, 27] })
    (base : Nat) (v xv : Value) (L M : List Ev) (hs : a.eval s = v) (hx : a.eval x = xv) (hown : OwnEv w base v L) (hsl : EvSl w xv M) (hn : L.length + M.length ≤ 600000000000) (hbase : base ≤ w.heap.size)
    (h : ∀ v' w', OwnEv w' base v' (L ++ M) → w.grownBy w' v.ownBlock → (v'.ownBlock = v.ownBlock ∨ v'.ownBlock = some w.heap.size) → wpList Try.prog ops Q rest (a.put o.dst v') w') :
    wpList Try.prog ops Q (o :: rest) a w := by
  refine wpList_plain hgd fun K hK => ?_
  obtain ⟨v', w', hr, h2, h3, h4⟩ := append_ev base o.type w v xv L M hown hsl hn hbase
  unfold Oper.wp execOp
  simp only [ho, resolve, invoke, builtin, Sem.run_bind, Sem.run_pure, Result.andThen_ok, List.map_toArray, List.map_cons, List.map_nil, hs, hx, hr]
  exact hK _ _ (h v' w' h2 h3 h4)

theorem hat_some {v v' : Value} {k : Nat} (h : v'.ownBlock = v.ownBlock ∨ v'.ownBlock = some k) (hv : v.ownBlock ≠ none) : v'.ownBlock ≠ none := by
  rcases h with h | h <;> rw [h]
  · exact hv
  · simp
/-- the same, with what a walk goes on with: that nothing below base is touched, and that the slice has a block. -/
theorem wpList_append_evB {ops : Array Oper} {rest : List Oper} {o : Oper} {a : Act} {Q : Exit → Act → World → Prop} {w : World} (hgd : o.guard = none) (s x : Operand)
    (ho : o.op = .call { callee := .builtin .append, args := #[s, x], argTypes := #[27, 27] })
    (base : Nat) (v xv : Value) (L M : List Ev) (hs : a.eval s = v) (hx : a.eval x = xv) (hown : OwnEv w base v L) (hv : v.ownBlock ≠ none) (hsl : EvSl w xv M) (hn : L.length + M.length ≤ 600000000000) (hbase : base ≤ w.heap.size)
    (h : ∀ v' w', Hid (OwnEv w' base v' (L ++ M)) → Hid (Below base w w') → Hid (v'.ownBlock ≠ none) → wpList Try.prog ops Q rest (a.put o.dst v') w') :
    wpList Try.prog ops Q (o :: rest) a w :=
  wpList_append_ev hgd s x ho base v xv L M hs hx hown hsl hn hbase fun v' w' h1 h2 h3 => h v' w' (Lib.hid h1) (Lib.hid (grown_below h2 hown hbase (Below.refl base w))) (Lib.hid (hat_some h3 hv))
theorem mk_block (g n c : Nat) : (Value.slice (some ⟨g, 0, none⟩) n c).ownBlock ≠ none := Option.some_ne_none _

/-- append in a region that draws its order. -/
theorem append_step {o : Oper} {a : Act} {K : Act → World → Prop} {Q : Exit → Act → World → Prop} {w : World} {c : Bool} (hw : c = true) (s x : Operand)
    (ho : o.op = .call { callee := .builtin .append, args := #[s, x], argTypes := #[27, 27] })
    (base : Nat) (v xv : Value) (L M : List Ev) (hs : a.eval s = v) (hx : a.eval x = xv) (hown : OwnEv w base v L) (hsl : EvSl w xv M) (hn : L.length + M.length ≤ 600000000000) (hbase : base ≤ w.heap.size)
    (h : ∀ v' w', OwnEv w' base v' (L ++ M) → w.grownBy w' v.ownBlock → (v'.ownBlock = v.ownBlock ∨ v'.ownBlock = some w.heap.size) → K (a.put o.dst v') w') :
    if c = true then Oper.wp Try.prog o a w K Q else K (a.put o.dst undef) w := by
  rw [if_pos hw]
  obtain ⟨v', w', hr, h2, h3, h4⟩ := append_ev base o.type w v xv L M hown hsl hn hbase
  unfold Oper.wp execOp
  simp only [ho, resolve, invoke, builtin, Sem.run_bind, Sem.run_pure, Result.andThen_ok, List.map_toArray, List.map_cons, List.map_nil, hs, hx, hr]
  exact h v' w' h2 h3 h4
/-- the same onto a slice that may have no block yet, without what a walk needs not. -/
theorem wpList_append_evC {ops : Array Oper} {rest : List Oper} {o : Oper} {a : Act} {Q : Exit → Act → World → Prop} {w : World} (hgd : o.guard = none) (s x : Operand)
    (ho : o.op = .call { callee := .builtin .append, args := #[s, x], argTypes := #[27, 27] })
    (base : Nat) (v xv : Value) (L M : List Ev) (hs : a.eval s = v) (hx : a.eval x = xv) (hown : OwnEv w base v L) (hsl : EvSl w xv M) (hn : L.length + M.length ≤ 600000000000) (hbase : base ≤ w.heap.size)
    (h : ∀ v' w', Hid (OwnEv w' base v' (L ++ M)) → Hid (Below base w w') → Hid (w.grownBy w' v.ownBlock) → wpList Try.prog ops Q rest (a.put o.dst v') w') :
    wpList Try.prog ops Q (o :: rest) a w :=
  wpList_append_ev hgd s x ho base v xv L M hs hx hown hsl hn hbase fun v' w' h1 h2 h3 => h v' w' (Lib.hid h1) (Lib.hid (grown_below h2 hown hbase (Below.refl base w))) (Lib.hid h2)
theorem OwnEv.form {w : World} {base : Nat} {v : Value} {L : List Ev} (h : OwnEv w base v L) : ∃ a cap, v = .slice a L.length cap := by
  obtain ⟨a, cap, e, _⟩ := h.sl
  exact ⟨a, cap, e⟩
theorem OwnEv.lt {w : World} {base : Nat} {v : Value} {L : List Ev} (h : OwnEv w base v L) : ∀ k, v.ownBlock = some k → base ≤ k ∧ k < w.heap.size := World.ownsRow.lt h
/-- one event, laid into a block of its own. -/
theorem EvSl.one (w : World) (e : Ev) : EvSl (w.alloc (.cells (evA e) 39)) (.slice (some ⟨w.heap.size, 0, none⟩) 1 1) [e] :=
  evsl_blk (L := [e]) (Nat.le_refl 1) (by decide) (gblk_new w _) fun j hj => by
    rw [show evs [e] = (evA e).toList by simp [evs], Array.getElem?_toList]

end Go.Proofs.Ytpdckjfkkiameaa
