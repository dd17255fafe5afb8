/- A call of the law's script (60 cells: a number, an event, two vectors, a number). Lemmas for the seat's proofs. -/
import Derived.Test.YtpdckjfkkiameaaPrBase
namespace Go.Proofs.Ytpdckjfkkiameaa
open Go.RowKit
set_option linter.unusedVariables false

/-- a call's cells. -/
def opP (k : Int) (e : Ev) (v u : Nat → Int) (n : Int) : Array Value := (.int .i64 k :: ((evA e).toList ++ ((vv v).toList ++ ((vv u).toList ++ [.int .i64 n])))).toArray
theorem opP_get0 (k : Int) (e : Ev) (v u : Nat → Int) (n : Int) : (opP k e v u n)[0]? = some (.int .i64 k) := rfl
theorem opP_ev (k : Int) (e : Ev) (v u : Nat → Int) (n : Int) {j : Nat} (h : j < 26) : (opP k e v u n)[1 + j]? = (evA e)[j]? := by
  have h1 : (evA e).toList.length = 26 := by rw [Array.length_toList, evA_size]
  unfold opP
  rw [List.getElem?_toArray, Nat.add_comm, List.getElem?_cons_succ, List.getElem?_append_left (by omega), Array.getElem?_toList]
theorem opP_v (k : Int) (e : Ev) (v u : Nat → Int) (n : Int) {j : Nat} (h : j < 16) : (opP k e v u n)[27 + j]? = (vv v)[j]? := by
  have h1 : (evA e).toList.length = 26 := by rw [Array.length_toList, evA_size]
  have h2 : (vv v).toList.length = 16 := by rw [Array.length_toList, vv_size]
  unfold opP
  rw [List.getElem?_toArray, show 27 + j = 26 + j + 1 by omega, List.getElem?_cons_succ, List.getElem?_append_right (by omega), h1, show 26 + j - 26 = j by omega, List.getElem?_append_left (by omega), Array.getElem?_toList]
theorem opP_u (k : Int) (e : Ev) (v u : Nat → Int) (n : Int) {j : Nat} (h : j < 16) : (opP k e v u n)[43 + j]? = (vv u)[j]? := by
  have h1 : (evA e).toList.length = 26 := by rw [Array.length_toList, evA_size]
  have h2 : (vv v).toList.length = 16 := by rw [Array.length_toList, vv_size]
  have h3 : (vv u).toList.length = 16 := by rw [Array.length_toList, vv_size]
  unfold opP
  rw [List.getElem?_toArray, show 43 + j = 42 + j + 1 by omega, List.getElem?_cons_succ, List.getElem?_append_right (by omega), h1, show 42 + j - 26 = 16 + j by omega, List.getElem?_append_right (by omega), h2, show 16 + j - 16 = j by omega, List.getElem?_append_left (by omega), Array.getElem?_toList]
theorem opP_n (k : Int) (e : Ev) (v u : Nat → Int) (n : Int) : (opP k e v u n)[59]? = some (.int .i64 n) := rfl
theorem opP_size (k : Int) (e : Ev) (v u : Nat → Int) (n : Int) : (opP k e v u n).size = 60 := rfl
/-- a call's parts, read from a block (or from within one). -/
structure OpAt (w : World) (b o : Nat) (k : Int) (e : Ev) (v u : Nat → Int) (n : Int) : Prop where
  kind : w.cell? ⟨b, o, none⟩ = some (.int .i64 k)
  ev : rowN 26 w b (o + 1) = some (evA e)
  v : rowN 16 w b (o + 27) = some (vv v)
  u : rowN 16 w b (o + 43) = some (vv u)
  n : w.cell? ⟨b, o + 59, none⟩ = some (.int .i64 n)
theorem opAt_of {w : World} {b o : Nat} {k : Int} {e : Ev} {v u : Nat → Int} {n : Int} (h : ∀ j, j < 60 → w.cell? ⟨b, o + j, none⟩ = (opP k e v u n)[j]?) : OpAt w b o k e v u n :=
  ⟨h 0 (by omega), rowN_of (evA_size e) fun j hj => by rw [Nat.add_assoc, h (1 + j) (by omega), opP_ev _ _ _ _ _ hj], rowN_of (vv_size v) fun j hj => by rw [Nat.add_assoc, h (27 + j) (by omega), opP_v _ _ _ _ _ hj], rowN_of (vv_size u) fun j hj => by rw [Nat.add_assoc, h (43 + j) (by omega), opP_u _ _ _ _ _ hj], h 59 (by omega)⟩
theorem opAt_blk {w : World} {b : Nat} {k : Int} {e : Ev} {v u : Nat → Int} {n : Int} {t : TypeId} {fr : Nat × Nat} (h : blk w b = some (.cells (opP k e v u n) t fr)) : OpAt w b 0 k e v u n :=
  opAt_of fun j _ => by rw [Nat.zero_add]; exact cell_of_row w b j _ t fr h
theorem OpAt.keep {w w' : World} {b o : Nat} {k : Int} {e : Ev} {v u : Nat → Int} {n : Int} (h : OpAt w b o k e v u n) (hb : Below w.heap.size w w') : OpAt w' b o k e v u n :=
  ⟨gcell hb h.kind, rowN_keep hb h.ev, rowN_keep hb h.v, rowN_keep hb h.u, gcell hb h.n⟩
theorem OpAt.fr {X : Nat → Prop} {w w' : World} {b o : Nat} {k : Int} {e : Ev} {v u : Nat → Int} {n : Int} (h : OpAt w b o k e v u n) (hf : Fr X w w') (hb : ¬ X b) : OpAt w' b o k e v u n :=
  ⟨hf.cell hb h.kind, hf.rowN hb h.ev, hf.rowN hb h.v, hf.rowN hb h.u, hf.cell hb h.n⟩

theorem op_of {cs : List Value} (h0 : LeavesOk [.int .i64, .int .i64, .int .i64, .int .i64, .int .i64, .int .i64, .int .i64, .int .i64, .int .i64, .int .i64, .int .i64, .int .i64, .int .i64, .int .i64, .int .i64, .int .i64, .int .i64, .int .i64, .int .i64, .int .i64, .int .i64, .string, .string, .string, .int .i64, .int .i64, .int .i64, .int .i64, .int .i64, .int .i64, .int .i64, .int .i64, .int .i64, .int .i64, .int .i64, .int .i64, .int .i64, .int .i64, .int .i64, .int .i64, .int .i64, .int .i64, .int .i64, .int .i64, .int .i64, .int .i64, .int .i64, .int .i64, .int .i64, .int .i64, .int .i64, .int .i64, .int .i64, .int .i64, .int .i64, .int .i64, .int .i64, .int .i64, .int .i64, .int .i64] cs) : ∃ (k : Int) (e : Ev) (v u : Nat → Int) (n : Int), cs.toArray = opP k e v u n ∧ In64 k ∧ In64 n := by
  obtain ⟨n0, c0, e0, b0, h1⟩ := h0.int
  obtain ⟨n1, c1, e1, b1, h2⟩ := h1.int
  obtain ⟨n2, c2, e2, b2, h3⟩ := h2.int
  obtain ⟨n3, c3, e3, b3, h4⟩ := h3.int
  obtain ⟨n4, c4, e4, b4, h5⟩ := h4.int
  obtain ⟨n5, c5, e5, b5, h6⟩ := h5.int
  obtain ⟨n6, c6, e6, b6, h7⟩ := h6.int
  obtain ⟨n7, c7, e7, b7, h8⟩ := h7.int
  obtain ⟨n8, c8, e8, b8, h9⟩ := h8.int
  obtain ⟨n9, c9, e9, b9, h10⟩ := h9.int
  obtain ⟨n10, c10, e10, b10, h11⟩ := h10.int
  obtain ⟨n11, c11, e11, b11, h12⟩ := h11.int
  obtain ⟨n12, c12, e12, b12, h13⟩ := h12.int
  obtain ⟨n13, c13, e13, b13, h14⟩ := h13.int
  obtain ⟨n14, c14, e14, b14, h15⟩ := h14.int
  obtain ⟨n15, c15, e15, b15, h16⟩ := h15.int
  obtain ⟨n16, c16, e16, b16, h17⟩ := h16.int
  obtain ⟨n17, c17, e17, b17, h18⟩ := h17.int
  obtain ⟨n18, c18, e18, b18, h19⟩ := h18.int
  obtain ⟨n19, c19, e19, b19, h20⟩ := h19.int
  obtain ⟨n20, c20, e20, b20, h21⟩ := h20.int
  obtain ⟨n21, c21, e21, b21, h22⟩ := h21.str
  obtain ⟨n22, c22, e22, b22, h23⟩ := h22.str
  obtain ⟨n23, c23, e23, b23, h24⟩ := h23.str
  obtain ⟨n24, c24, e24, b24, h25⟩ := h24.int
  obtain ⟨n25, c25, e25, b25, h26⟩ := h25.int
  obtain ⟨n26, c26, e26, b26, h27⟩ := h26.int
  obtain ⟨n27, c27, e27, b27, h28⟩ := h27.int
  obtain ⟨n28, c28, e28, b28, h29⟩ := h28.int
  obtain ⟨n29, c29, e29, b29, h30⟩ := h29.int
  obtain ⟨n30, c30, e30, b30, h31⟩ := h30.int
  obtain ⟨n31, c31, e31, b31, h32⟩ := h31.int
  obtain ⟨n32, c32, e32, b32, h33⟩ := h32.int
  obtain ⟨n33, c33, e33, b33, h34⟩ := h33.int
  obtain ⟨n34, c34, e34, b34, h35⟩ := h34.int
  obtain ⟨n35, c35, e35, b35, h36⟩ := h35.int
  obtain ⟨n36, c36, e36, b36, h37⟩ := h36.int
  obtain ⟨n37, c37, e37, b37, h38⟩ := h37.int
  obtain ⟨n38, c38, e38, b38, h39⟩ := h38.int
  obtain ⟨n39, c39, e39, b39, h40⟩ := h39.int
  obtain ⟨n40, c40, e40, b40, h41⟩ := h40.int
  obtain ⟨n41, c41, e41, b41, h42⟩ := h41.int
  obtain ⟨n42, c42, e42, b42, h43⟩ := h42.int
  obtain ⟨n43, c43, e43, b43, h44⟩ := h43.int
  obtain ⟨n44, c44, e44, b44, h45⟩ := h44.int
  obtain ⟨n45, c45, e45, b45, h46⟩ := h45.int
  obtain ⟨n46, c46, e46, b46, h47⟩ := h46.int
  obtain ⟨n47, c47, e47, b47, h48⟩ := h47.int
  obtain ⟨n48, c48, e48, b48, h49⟩ := h48.int
  obtain ⟨n49, c49, e49, b49, h50⟩ := h49.int
  obtain ⟨n50, c50, e50, b50, h51⟩ := h50.int
  obtain ⟨n51, c51, e51, b51, h52⟩ := h51.int
  obtain ⟨n52, c52, e52, b52, h53⟩ := h52.int
  obtain ⟨n53, c53, e53, b53, h54⟩ := h53.int
  obtain ⟨n54, c54, e54, b54, h55⟩ := h54.int
  obtain ⟨n55, c55, e55, b55, h56⟩ := h55.int
  obtain ⟨n56, c56, e56, b56, h57⟩ := h56.int
  obtain ⟨n57, c57, e57, b57, h58⟩ := h57.int
  obtain ⟨n58, c58, e58, b58, h59⟩ := h58.int
  obtain ⟨n59, c59, e59, b59, h60⟩ := h59.int
  have e := h60.none
  subst e e59 e58 e57 e56 e55 e54 e53 e52 e51 e50 e49 e48 e47 e46 e45 e44 e43 e42 e41 e40 e39 e38 e37 e36 e35 e34 e33 e32 e31 e30 e29 e28 e27 e26 e25 e24 e23 e22 e21 e20 e19 e18 e17 e16 e15 e14 e13 e12 e11 e10 e9 e8 e7 e6 e5 e4 e3 e2 e1 e0
  refine ⟨n0, ⟨n1, n2, n3, fn16 [n4, n5, n6, n7, n8, n9, n10, n11, n12, n13, n14, n15, n16, n17, n18, n19], n20, n21, n22, n23, n24, n25, n26⟩, fn16 [n27, n28, n29, n30, n31, n32, n33, n34, n35, n36, n37, n38, n39, n40, n41, n42], fn16 [n43, n44, n45, n46, n47, n48, n49, n50, n51, n52, n53, n54, n55, n56, n57, n58], n59, rfl, in64_of b0, in64_of b59⟩

noncomputable def loadOp1 (b off : Nat) (w : World) : Result Next := loadVV (.pointer (some ⟨b, off, none⟩)) w
theorem loadVV_rowN {w : World} {b off : Nat} {cs : Array Value} (h : rowN 16 w b off = some cs) : loadVV (.pointer (some ⟨b, off, none⟩)) w = .ok (.value (.agg cs)) w := by
  simp only [loadVV, Instr.loadAt, Instr.sureAddr, Sem.run_bind, Sem.run_pure, Result.andThen_ok, run_loadVar_rowN h Try.underlying35 rfl infoVV]
theorem loadVV_27 (w : World) (b : Nat) : loadVV (.pointer (some ⟨b, 27, none⟩)) w = match rowN 16 w b 27 with | some cs => .ok (.value (.agg cs)) w | none => loadOp1 b 27 w := by
  split
  · rename_i cs h; exact loadVV_rowN h
  · rfl
theorem loadVV_43 (w : World) (b : Nat) : loadVV (.pointer (some ⟨b, 43, none⟩)) w = match rowN 16 w b 43 with | some cs => .ok (.value (.agg cs)) w | none => loadOp1 b 43 w := by
  split
  · rename_i cs h; exact loadVV_rowN h
  · rfl

/-- a call. -/
structure OpC where
  k : Int
  e : Ev
  v : Nat → Int
  u : Nat → Int
  n : Int
def OpC.cells (c : OpC) : Array Value := opP c.k c.e c.v c.u c.n
/-- the cells of a script. -/
def OpsAt (w : World) (b o : Nat) (L : List OpC) : Prop := ∀ (i : Nat) (h : i < L.length), rowN 60 w b (o + i * 60) = some (opP L[i].k L[i].e L[i].v L[i].u L[i].n)
theorem OpsAt.keep {w w' : World} {b o : Nat} {L : List OpC} (h : OpsAt w b o L) (hb : Below w.heap.size w w') : OpsAt w' b o L := fun i hi => rowN_keep hb (h i hi)
theorem script_of {w : World} {a : Option Addr} {len : Nat} (h : RowsIn [.int .i64, .int .i64, .int .i64, .int .i64, .int .i64, .int .i64, .int .i64, .int .i64, .int .i64, .int .i64, .int .i64, .int .i64, .int .i64, .int .i64, .int .i64, .int .i64, .int .i64, .int .i64, .int .i64, .int .i64, .int .i64, .string, .string, .string, .int .i64, .int .i64, .int .i64, .int .i64, .int .i64, .int .i64, .int .i64, .int .i64, .int .i64, .int .i64, .int .i64, .int .i64, .int .i64, .int .i64, .int .i64, .int .i64, .int .i64, .int .i64, .int .i64, .int .i64, .int .i64, .int .i64, .int .i64, .int .i64, .int .i64, .int .i64, .int .i64, .int .i64, .int .i64, .int .i64, .int .i64, .int .i64, .int .i64, .int .i64, .int .i64, .int .i64] w a len) : ∃ L : List OpC, L.length = len ∧ (L = [] ∨ ∃ b o, a = some ⟨b, o, none⟩ ∧ b < w.heap.size ∧ OpsAt w b o L) := by
  rcases h with rfl | ⟨b, o, rfl, hb, h⟩
  · exact ⟨[], rfl, .inl rfl⟩
  · have h' : ∀ i, i < len → ∃ c : OpC, rowN 60 w b (o + i * 60) = some (opP c.k c.e c.v c.u c.n) := fun i hi => by
      obtain ⟨cs, hcs, hc⟩ := h i hi
      obtain ⟨k, e, v, u, n, he, _, _⟩ := op_of hcs
      refine ⟨⟨k, e, v, u, n⟩, rowN_of (opP_size _ _ _ _ _) fun j hj => ?_⟩
      show _ = (opP k e v u n)[j]?
      rw [← he]
      exact (hc j hj).trans (by simp)
    have : Inhabited OpC := ⟨⟨0, zE, z0, z0, 0⟩⟩
    obtain ⟨f, hf⟩ := Deep.choose_lt h'
    refine ⟨(List.range len).map f, by simp, .inr ⟨b, o, rfl, hb, fun i hi => ?_⟩⟩
    have hi' : i < len := by simpa using hi
    have := hf i hi'
    simpa using this
theorem opP_one (k : Int) (e : Ev) (v u : Nat → Int) (n : Int) : (opP k e v u n).all (·.oneCell') = true := by simp [opP, evA, vv, Value.oneCell']
theorem infoOp : (Try.prog.info? 41).map (·.size) = some 60 := by kernel_rfl
noncomputable def loadOP (v : Value) (w : World) : Result Next := (do pure (Next.value (← Instr.loadAt 41 v))).run Try.prog w
noncomputable def loadOPs (b off : Nat) (w : World) : Result Next := loadOP (.pointer (some ⟨b, off, none⟩)) w
theorem exec_load_op (ρ : Operand → Value) (dst : Option Tmp) (x : Operand) (ty : TypeId) (pos : String) (after : Array Edge) (guard : Option (Nat × Bool)) (w : World) :
    (execOp ρ ⟨dst, .load 41 x, ty, pos, after, guard⟩).run Try.prog w = loadOP (ρ x) w := rfl
theorem loadOP_at (w : World) (b off : Nat) : loadOP (.pointer (some ⟨b, off, none⟩)) w = match rowN 60 w b off with | some cs => .ok (.value (.agg cs)) w | none => loadOPs b off w := by
  split
  · rename_i cs h
    simp only [loadOP, Instr.loadAt, Instr.sureAddr, Sem.run_bind, Sem.run_pure, Result.andThen_ok, run_loadVar_rowN h Try.underlying41 rfl infoOp]
  · rfl
noncomputable def storeOP (v x : Value) (w : World) : Result Next := (do Instr.storeAt 41 v x; pure Next.skip).run Try.prog w
noncomputable def storeOPs (g : Nat) (a : Array Value) (w : World) : Result Next := storeOP (.pointer (some ⟨g, 0, none⟩)) (.agg a) w
theorem exec_store_op (ρ : Operand → Value) (dst : Option Tmp) (x y : Operand) (ty : TypeId) (pos : String) (after : Array Edge) (guard : Option (Nat × Bool)) (w : World) :
    (execOp ρ ⟨dst, .store 41 x y, ty, pos, after, guard⟩).run Try.prog w = storeOP (ρ x) (ρ y) w := rfl
theorem storeOP_at (w : World) (g : Nat) (k : Int) (e : Ev) (v u : Nat → Int) (n : Int) : storeOP (.pointer (some ⟨g, 0, none⟩)) (.agg (opP k e v u n)) w =
    match blk w g with
    | some (.cells cs t (0, 0)) => if cs.size = 60 then .ok .skip (w.setRow g (opP k e v u n)) else storeOPs g (opP k e v u n) w
    | _ => storeOPs g (opP k e v u n) w := by
  split
  · rename_i cs t h
    split
    · rename_i hs
      simp only [storeOP, Instr.storeAt, Instr.sureAddr, Sem.run_bind, Sem.run_pure, Result.andThen_ok, run_storeVar_row w g t 41 cs (opP k e v u n) (show w.heap[g]? = _ from h) infoOp (by rw [hs]; rfl) (opP_one k e v u n)]
    · rfl
  · rfl

end Go.Proofs.Ytpdckjfkkiameaa
