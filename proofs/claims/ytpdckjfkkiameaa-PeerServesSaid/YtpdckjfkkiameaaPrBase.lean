/- Logs: a block that holds a slice of events; what a call may change, told by the blocks. Lemmas for the seat's proofs. -/
import Derived.Test.YtpdckjfkkiameaaEvApp
namespace Go.Proofs.Ytpdckjfkkiameaa
open Go.RowKit
set_option linter.unusedVariables false

theorem blk_lt {w : World} {k : Nat} {o : Obj} (h : blk w k = some o) : k < w.heap.size := by
  unfold blk at h
  exact (Array.getElem?_eq_some_iff.1 h).1
theorem blkB {B : Nat} {w w' : World} (h : Below B w w') {k : Nat} {o : Obj} (hk : k < B) (hb : blk w k = some o) : blk w' k = some o := by
  unfold blk at *
  rw [h.block k hk]; exact hb
theorem OwnEv.mono {w : World} {base b2 : Nat} {v : Value} {L : List Ev} (h : OwnEv w base v L) (hb : b2 ≤ base) : OwnEv w b2 v L := by
  refine ⟨h.1, ?_⟩
  rcases h.2 with hn | ⟨g, cap, cur, rfl, hb', rest⟩
  · exact .inl hn
  · exact .inr ⟨g, cap, cur, rfl, Nat.le_trans hb hb', rest⟩
/-- all blocks that were there are as they were, but those of X. -/
structure Fr (X : Nat → Prop) (w w' : World) : Prop where
  os : w'.os = w.os
  tape : w'.tape = w.tape
  output : w'.output = w.output
  size : w.heap.size ≤ w'.heap.size
  block : ∀ k, k < w.heap.size → ¬ X k → w'.heap[k]? = w.heap[k]?
theorem Fr.refl (X : Nat → Prop) (w : World) : Fr X w w := ⟨rfl, rfl, rfl, Nat.le_refl _, fun _ _ _ => rfl⟩
theorem Fr.of_below {X : Nat → Prop} {w w' : World} (h : Below w.heap.size w w') : Fr X w w' := ⟨h.os, h.tape, h.output, h.size, fun k hk _ => h.block k hk⟩
theorem Fr.of_grown {X : Nat → Prop} {w w' : World} {row : Option Nat} (h : w.grownBy w' row) (hX : ∀ k, some k = row → X k) : Fr X w w' := ⟨h.os, h.tape, h.output, h.size, fun k hk hn => h.block k hk (fun e => hn (hX k e))⟩
theorem Fr.trans {X : Nat → Prop} {a b c : World} (h : Fr X a b) (k : Fr X b c) : Fr X a c :=
  ⟨k.os.trans h.os, k.tape.trans h.tape, k.output.trans h.output, Nat.le_trans h.size k.size, fun i hi hn => (k.block i (Nat.lt_of_lt_of_le hi h.size) hn).trans (h.block i hi hn)⟩
theorem Fr.mono {X Y : Nat → Prop} {w w' : World} (h : Fr X w w') (hX : ∀ k, k < w.heap.size → X k → Y k) : Fr Y w w' := ⟨h.os, h.tape, h.output, h.size, fun k hk hn => h.block k hk (fun e => hn (hX k hk e))⟩
theorem Fr.drew {X : Nat → Prop} {w w' : World} (h : Fr X w w') : Fr X w w'.drew := ⟨h.os, h.tape, h.output, h.size, h.block⟩
theorem Fr.below {X : Nat → Prop} {w0 w w' : World} {B : Nat} (h : Fr X w w') (hX : ∀ k, k < B → ¬ X k) (hB : B ≤ w.heap.size) (hb : Below B w0 w) : Below B w0 w' :=
  hb.trans ⟨h.os, h.tape, h.output, h.size, fun k hk => h.block k (Nat.lt_of_lt_of_le hk hB) (hX k hk)⟩
theorem Fr.blk {X : Nat → Prop} {w w' : World} (h : Fr X w w') {k : Nat} {o : Obj} (hk : ¬ X k) (hb : blk w k = some o) : blk w' k = some o := by
  unfold Ytpdckjfkkiameaa.blk at *
  rw [h.block k (Array.getElem?_eq_some_iff.1 hb).1 hk]; exact hb
theorem Fr.setCell {X : Nat → Prop} (w : World) (g i : Nat) (v : Value) (hX : X g) : Fr X w (w.setCell ⟨g, i, none⟩ v) :=
  ⟨rfl, rfl, rfl, by simp, fun k hk hn => heap_setCell_other w ⟨g, i, none⟩ k v (fun e => hn (by rw [e]; exact hX))⟩
theorem Fr.setRow {X : Nat → Prop} (w : World) (g : Nat) (cs : Array Value) (hX : X g) : Fr X w (w.setRow g cs) :=
  ⟨rfl, rfl, rfl, by simp, fun k hk hn => setRow_other w g k cs (fun e => hn (by rw [e]; exact hX))⟩
theorem Fr.cell {X : Nat → Prop} {w w' : World} (h : Fr X w w') {p : Addr} {v : Value} (hk : ¬ X p.block) (hc : w.cell? p = some v) : w'.cell? p = some v := by
  rw [← hc]
  have hb := h.block p.block (World.block_lt_of_cell? w _ hc) hk
  unfold World.cell?
  rw [hb]
theorem Fr.rowN {X : Nat → Prop} {w w' : World} (h : Fr X w w') {n b off : Nat} {cs : Array Value} (hk : ¬ X b) (hr : rowN n w b off = some cs) : rowN n w' b off = some cs := by
  obtain ⟨h1, h2⟩ := rowN_cells hr
  refine rowN_of h1 fun j hj => ?_
  have h3 := h2 j hj
  rw [Array.getElem?_eq_getElem (by omega)] at h3 ⊢
  exact h.cell hk h3
theorem Fr.evsl {X : Nat → Prop} {w w' : World} (h : Fr X w w') {v : Value} {L : List Ev} (hk : ∀ k, v.ownBlock = some k → ¬ X k) (hs : EvSl w v L) : EvSl w' v L := by
  obtain ⟨a, cap, rfl, hc, hm, h1 | ⟨b, o, rfl, h1⟩⟩ := hs
  · exact ⟨a, cap, rfl, hc, hm, .inl h1⟩
  · exact ⟨_, cap, rfl, hc, hm, .inr ⟨b, o, rfl, fun i hi => h.rowN (hk b rfl) (h1 i hi)⟩⟩
theorem Fr.own {X : Nat → Prop} {w w' : World} (h : Fr X w w') {base : Nat} {v : Value} {L : List Ev} (hk : ∀ k, v.ownBlock = some k → ¬ X k) (hs : OwnEv w base v L) : OwnEv w' base v L := by
  refine ⟨hs.1, ?_⟩
  rcases hs.2 with hn | ⟨g, cap, cur, rfl, hb', hg, rest⟩
  · exact .inl hn
  · exact .inr ⟨g, cap, cur, rfl, hb', by rw [h.block g (Array.getElem?_eq_some_iff.1 hg).1 (hk g rfl)]; exact hg, rest⟩

/-- block g is a log (of type t) whose events are L. -/
structure LogT (t : TypeId) (w : World) (base g : Nat) (v : Value) (L : List Ev) : Prop where
  head : blk w g = some (.cells #[v] t (0, 0))
  own : OwnEv w base v L
  base_le : base ≤ g
/-- what a call on a log may change. -/
def LogX (g : Nat) (v : Value) (k : Nat) : Prop := k = g ∨ some k = v.ownBlock
theorem LogT.cell {t : TypeId} {w : World} {base g : Nat} {v : Value} {L : List Ev} (h : LogT t w base g v L) : w.cell? ⟨g, 0, none⟩ = some v := cell_of_row w g 0 _ _ _ h.head
theorem LogT.lt {t : TypeId} {w : World} {base g : Nat} {v : Value} {L : List Ev} (h : LogT t w base g v L) : g < w.heap.size := (Array.getElem?_eq_some_iff.1 (show w.heap[g]? = _ from h.head)).1
theorem LogT.ne {t : TypeId} {w : World} {base g : Nat} {v : Value} {L : List Ev} (h : LogT t w base g v L) (ht : t ≠ 39) : v.ownBlock ≠ some g := fun e => by
  rcases h.own.2 with ⟨rfl, _⟩ | ⟨g', cap, cur, rfl, _, hg, _⟩
  · simp [Value.ownBlock] at e
  · have e' : g' = g := by simpa [Value.ownBlock] using e
    subst e'
    have h2 := h.head
    unfold blk at h2
    rw [hg] at h2
    simp only [Option.some.injEq, Obj.cells.injEq] at h2
    exact ht h2.2.1.symm
theorem LogX.ge {t : TypeId} {w : World} {base g : Nat} {v : Value} {L : List Ev} (h : LogT t w base g v L) : ∀ k, k < base → ¬ LogX g v k := fun k hk hx => by
  rcases hx with rfl | e
  · exact absurd h.base_le (by omega)
  · have := (h.own.lt k e.symm).1; omega
theorem LogT.fr {t : TypeId} {X : Nat → Prop} {w w' : World} {base g : Nat} {v : Value} {L : List Ev} (h : LogT t w base g v L) (hf : Fr X w w') (hx : ∀ k, LogX g v k → ¬ X k) : LogT t w' base g v L :=
  ⟨hf.blk (hx g (.inl rfl)) h.head, hf.own (fun k e => hx k (.inr e.symm)) h.own, h.base_le⟩
theorem LogT.keep {t : TypeId} {w w' : World} {base g : Nat} {v : Value} {L : List Ev} (h : LogT t w base g v L) (hb : Below w.heap.size w w') : LogT t w' base g v L :=
  ⟨gblk hb h.head, h.own.below hb, h.base_le⟩
theorem LogT.alloc {t : TypeId} {w : World} {base g : Nat} {v : Value} {L : List Ev} (h : LogT t w base g v L) (o : Obj) : LogT t (w.alloc o) base g v L := ⟨gblk_alloc o h.head, h.own.alloc o, h.base_le⟩
/-- a log whose slice is laid anew. -/
theorem LogT.put {t : TypeId} {w : World} {base g : Nat} {v v' : Value} {L : List Ev} (h : blk w g = some (.cells #[v] t (0, 0))) (ho : OwnEv w base v' L) (hne : v'.ownBlock ≠ some g) (hb : base ≤ g) : LogT t (w.setCell ⟨g, 0, none⟩ v') base g v' L :=
  ⟨by rw [blk_setCell, if_pos rfl, h]; rfl, (Fr.setCell (X := fun k => k = g) w g 0 v' rfl).own (fun k e hk => hne (by rw [e, hk])) ho, hb⟩
abbrev LOG := LogT 31

end Go.Proofs.Ytpdckjfkkiameaa
