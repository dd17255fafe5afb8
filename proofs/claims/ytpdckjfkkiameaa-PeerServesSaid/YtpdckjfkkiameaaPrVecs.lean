/- A slice of vectors that the call owns; and the plain law: what one is told, one behind the other, till one has seen all of it. Lemmas for the seat's proofs. -/
import Derived.Test.YtpdckjfkkiameaaPrFor
import Derived.Test.YtpdckjfkkiameaaPrMay
namespace Go.Proofs.Ytpdckjfkkiameaa
open Go.RowKit
set_option linter.unusedVariables false

def vvs (S : List (Nat → Int)) : List Value := S.flatMap fun v => (vv v).toList
theorem vvs_length (S : List (Nat → Int)) : (vvs S).length = S.length * 16 := by
  induction S with
  | nil => rfl
  | cons e S ih =>
    have h : vvs (e :: S) = (vv e).toList ++ vvs S := by simp [vvs]
    rw [h, List.length_append, ih, Array.length_toList, vv_size, List.length_cons]; omega
theorem vvs_append (S T : List (Nat → Int)) : vvs (S ++ T) = vvs S ++ vvs T := by simp [vvs]
theorem vvs_get : ∀ (S : List (Nat → Int)) (i j : Nat) (h : i < S.length), j < 16 → (vvs S)[i * 16 + j]? = (vv S[i])[j]?
  | e :: S, i, j, h, hj => by
    have h1 : vvs (e :: S) = (vv e).toList ++ vvs S := by simp [vvs]
    have hs : (vv e).toList.length = 16 := by simp [vv_size]
    rw [h1]
    cases i with
    | zero =>
      rw [Nat.zero_mul, Nat.zero_add, List.getElem?_append_left (by omega)]
      simp
    | succ i =>
      rw [List.getElem?_append_right (by omega), hs, show (i + 1) * 16 + j - 16 = i * 16 + j by omega, vvs_get S i j (by simpa using h) hj]
      simp
theorem vvs_one (S : List (Nat → Int)) : ∀ u ∈ vvs S, u.oneCell' = true := by
  intro u hu
  unfold vvs at hu
  obtain ⟨e, _, he⟩ := List.mem_flatMap.1 hu
  have := vv_one e
  rw [Array.all_eq_true_iff_forall_mem] at this
  exact this u (by simpa using he)
/-- a slice of vectors in a block that the call owns. -/
def OwnVV (w : World) (base : Nat) (v : Value) (S : List (Nat → Int)) : Prop := w.ownsRow base 35 16 v S.length (vvs S)
theorem OwnVV.nil (w : World) (base : Nat) : OwnVV w base (.slice none 0 0) [] := World.ownsRow_nil _ _ _ _
theorem OwnVV.form {w : World} {base : Nat} {v : Value} {S : List (Nat → Int)} (h : OwnVV w base v S) : ∃ a cap, v = .slice a S.length cap := by
  rcases h.2 with ⟨rfl, h0⟩ | ⟨g, cap, cur, rfl, _⟩
  · exact ⟨none, 0, by rw [h0]⟩
  · exact ⟨_, cap, rfl⟩
theorem OwnVV.lt {w : World} {base : Nat} {v : Value} {S : List (Nat → Int)} (h : OwnVV w base v S) : ∀ k, v.ownBlock = some k → base ≤ k ∧ k < w.heap.size := World.ownsRow.lt h
theorem OwnVV.fr {X : Nat → Prop} {w w' : World} (h : Fr X w w') {base : Nat} {v : Value} {S : List (Nat → Int)} (hk : ∀ k, v.ownBlock = some k → ¬ X k) (hs : OwnVV w base v S) : OwnVV w' base v S := by
  refine ⟨hs.1, ?_⟩
  rcases hs.2 with hn | ⟨g, cap, cur, rfl, hb', hg, rest⟩
  · exact .inl hn
  · exact .inr ⟨g, cap, cur, rfl, hb', by rw [h.block g (Array.getElem?_eq_some_iff.1 hg).1 (hk g rfl)]; exact hg, rest⟩
theorem OwnVV.below {w w' : World} {base : Nat} {v : Value} {S : List (Nat → Int)} (h : OwnVV w base v S) (hb : Below w.heap.size w w') : OwnVV w' base v S := h.fr (Fr.of_below (X := fun _ => False) hb) (fun _ _ => id)
theorem OwnVV.row {w : World} {base : Nat} {a : Option Addr} {len cap : Nat} {S : List (Nat → Int)} (h : OwnVV w base (.slice a len cap) S) {k : Nat} (hk : k < S.length) : ∃ g, a = some ⟨g, 0, none⟩ ∧ base ≤ g ∧ g < w.heap.size ∧ rowN 16 w g (k * 16) = some (vv S[k]) := by
  rcases h.2 with ⟨e, h0⟩ | ⟨g, c', cur, e, hb, hg, hc, hm, hs, ht⟩
  · omega
  · simp only [Value.slice.injEq] at e
    refine ⟨g, e.1, hb, (Array.getElem?_eq_some_iff.1 hg).1, rowN_of (vv_size _) fun j hj => ?_⟩
    have h1 : k * 16 + j < S.length * 16 := by
      have := Nat.mul_le_mul_right 16 (show k + 1 ≤ S.length from hk)
      omega
    rw [cell_of_row w g _ _ _ _ hg, ← vvs_get S k j hk hj, ← ht, List.getElem?_take_of_lt h1, Array.getElem?_toList]
theorem infoVVAll : (Try.prog.info? 35).map (fun i => (i.zero, i.size, i.bytes)) = some (some (.agg (vv z0)), 16, 128) := by kernel_rfl
theorem wpList_append_vv {ops : Array Oper} {rest : List Oper} {o : Oper} {a : Act} {Q : Exit → Act → World → Prop} {w : World} (hgd : o.guard = none) (s y : Operand)
    (ho : o.op = .call { callee := .builtin .append, args := #[s, y], argTypes := #[51, 51] })
    (base : Nat) (v : Value) (S : List (Nat → Int)) (x : Nat → Int) (sg cs : Nat) (hs : a.eval s = v) (hx : a.eval y = .slice (some ⟨sg, 0, none⟩) 1 cs) (hown : OwnVV w base v S) (hc : rowN 16 w sg 0 = some (vv x)) (hn : S.length ≤ 100000) (hbase : base ≤ w.heap.size)
    (h : ∀ v' w', Hid (OwnVV w' base v' (S ++ [x])) → Hid (w.grownBy w' v.ownBlock) → wpList Try.prog ops Q rest (a.put o.dst v') w') :
    wpList Try.prog ops Q (o :: rest) a w := by
  obtain ⟨i0, hi, hz0, hz1, hz2⟩ := info_parts infoVVAll
  refine wpList_append_own w hgd s y 51 ho base 35 i0 (.agg (vv z0)) 16 128 Try.underlying51 hi hz0 hz1 hz2 rfl (by decide) v S.length (vvs S) hs hown ⟨sg, 0, none⟩ 1 cs (vv x).toList hx (by rw [Array.length_toList, vv_size]) (fun j u hu => ?_) (fun u hu => (Array.all_eq_true_iff_forall_mem.1 (vv_one x)) u (by simpa using hu)) (by unfold maxLen; omega) (by omega) hbase (fun v' w' h1 h2 _ => h v' w' (Lib.hid ?_) (Lib.hid h2))
  · rw [Go.WideShapes.add_plain]
    have hj : j < 16 := by have := (List.getElem?_eq_some_iff.1 hu).1; simp [vv_size] at this; omega
    rw [(rowN_cells hc).2 j hj, ← hu, Array.getElem?_toList]
  · unfold OwnVV
    rw [List.length_append, vvs_append, show vvs [x] = (vv x).toList by simp [vvs]]
    exact h1

/-! ### the plain law -/
/-- what one has seen behind these events. -/
def vecOf (E : List Ev) : Nat → Int := E.foldl (fun v e => up v e.r.toNat e.n) z0
theorem vecOf_snoc (E : List Ev) (x : Ev) : vecOf (E ++ [x]) = up (vecOf E) x.r.toNat x.n := by simp [vecOf]
/-- each event may be seen behind those ahead of it. -/
def GoodE (E : List Ev) : Prop := ∀ (i : Nat) (h : i < E.length), dotB E[i].r E[i].n = true ∧ mayB E[i] (vecOf (E.take i)) = true
theorem GoodE.nil : GoodE [] := fun i h => absurd h (by simp)
theorem GoodE.snoc {E : List Ev} {x : Ev} (h : GoodE E) (hd : dotB x.r x.n = true) (hm : mayB x (vecOf E) = true) : GoodE (E ++ [x]) := fun i hi => by
  by_cases h1 : i < E.length
  · rw [List.getElem_append_left h1, List.take_append_of_le_length (by omega)]
    exact h i h1
  · have e : i = E.length := by simp at hi; omega
    subst e
    rw [List.getElem_append_right (by omega), List.take_left]
    simpa using ⟨hd, hm⟩
theorem vecOf_succ {E : List Ev} {k : Nat} (h : k < E.length) : vecOf (E.take (k + 1)) = up (vecOf (E.take k)) E[k].r.toNat E[k].n := by
  rw [List.take_succ_eq_append_getElem h, vecOf_snoc]
theorem may_n {x : Ev} {v : Nat → Int} (h : mayB x v = true) : x.n = v x.r.toNat + 1 := by
  unfold mayB at h
  simp only [Bool.and_eq_true, decide_eq_true_eq] at h
  exact h.1
theorem vec_le {E : List Ev} (h : GoodE E) (i : Nat) : ∀ (k : Nat), k + 1 ≤ E.length → vecOf (E.take k) i ≤ vecOf (E.take (k + 1)) i := fun k hk => by
  rw [vecOf_succ hk]
  have hn := may_n (h k hk).2
  unfold up
  split
  · rename_i e; subst e; omega
  · exact Int.le_refl _
theorem vec_mono {E : List Ev} (h : GoodE E) (i : Nat) {j k : Nat} (hjk : j ≤ k) (hk : k ≤ E.length) : vecOf (E.take j) i ≤ vecOf (E.take k) i := by
  obtain ⟨d, rfl⟩ := Nat.exists_eq_add_of_le hjk
  clear hjk
  induction d with
  | zero => exact Int.le_refl _
  | succ d ih => exact Int.le_trans (ih (by omega)) (vec_le h i (j + d) (by omega))
theorem vec_bd {E : List Ev} (h : GoodE E) (i : Nat) : ∀ (k : Nat), k ≤ E.length → 0 ≤ vecOf (E.take k) i ∧ vecOf (E.take k) i ≤ 1048576
  | 0, _ => by simp [vecOf, z0]
  | k + 1, hk => by
    have h1 := vec_bd h i k (by omega)
    rw [vecOf_succ hk]
    obtain ⟨_, _, h2, h3⟩ := dotB_true (h k hk).1
    unfold up
    split
    · omega
    · exact h1
/-- the events that lie between two vectors are those that one lacks. -/
theorem want_between {E : List Ev} (h : GoodE E) {j n : Nat} (hj : j ≤ n) (hn : n ≤ E.length) {i : Nat} (hi : i < E.length) : wantB (vecOf (E.take j)) (vecOf (E.take n)) E[i] = decide (j ≤ i ∧ i < n) := by
  have hd := (h i hi).1
  have hm := may_n (h i hi).2
  have hs : vecOf (E.take (i + 1)) E[i].r.toNat = E[i].n := by rw [vecOf_succ hi]; simp [up]
  unfold wantB hasB
  rw [hd]
  simp only [Bool.true_and]
  have a1 : decide (E[i].n ≤ vecOf (E.take n) E[i].r.toNat) = decide (i < n) := by
    by_cases hc : i < n
    · rw [decide_eq_true hc, decide_eq_true]
      rw [← hs]
      exact vec_mono h _ hc hn
    · rw [decide_eq_false hc, decide_eq_false]
      have := vec_mono h E[i].r.toNat (show n ≤ i by omega) (by omega)
      omega
  have a2 : decide (E[i].n ≤ vecOf (E.take j) E[i].r.toNat) = decide (i < j) := by
    by_cases hc : i < j
    · rw [decide_eq_true hc, decide_eq_true]
      rw [← hs]
      exact vec_mono h _ hc (by omega)
    · rw [decide_eq_false hc, decide_eq_false]
      have := vec_mono h E[i].r.toNat (show j ≤ i by omega) (by omega)
      omega
  rw [a1, a2]
  by_cases c1 : i < n <;> by_cases c2 : i < j <;> simp [c1, c2] <;> omega
theorem filter_between {p : Ev → Bool} : ∀ (E : List Ev) (j n : Nat), j ≤ n → n ≤ E.length → (∀ (i : Nat) (h : i < E.length), p E[i] = decide (j ≤ i ∧ i < n)) → E.filter p = (E.take n).drop j
  | [], j, n, hj, hn, _ => by simp at hn; subst hn; simp
  | e :: E, j, 0, hj, hn, hp => by
    have : j = 0 := by omega
    subst this
    simp only [List.take_zero, List.drop_zero]
    rw [List.filter_eq_nil_iff]
    intro a ha
    obtain ⟨i, hi, rfl⟩ := List.mem_iff_getElem.1 ha
    rw [hp i hi]
    simp
  | e :: E, 0, n + 1, hj, hn, hp => by
    have h0 := hp 0 (by simp)
    simp only [List.getElem_cons_zero] at h0
    rw [List.filter_cons, h0]
    have := filter_between (p := p) E 0 n (by omega) (by simpa using hn) (fun i hi => by
      have := hp (i + 1) (by simpa using hi)
      simp only [List.getElem_cons_succ] at this
      rw [this]
      simp)
    simp only [List.take_succ_cons, List.drop_zero] at *
    rw [this]
    simp
  | e :: E, j + 1, n + 1, hj, hn, hp => by
    have h0 := hp 0 (by simp)
    simp only [List.getElem_cons_zero] at h0
    rw [List.filter_cons, h0]
    have := filter_between (p := p) E j n (by omega) (by simpa using hn) (fun i hi => by
      have := hp (i + 1) (by simpa using hi)
      simp only [List.getElem_cons_succ] at this
      rw [this]
      simp)
    rw [this]
    simp
/-- what one is told is the events behind those that one has seen, as many as may be. -/
theorem told {E : List Ev} (h : GoodE E) {j n : Nat} (hj : j ≤ n) (hn : n ≤ E.length) (c : Int) : forE (vecOf (E.take j)) (vecOf (E.take n)) c E = ((E.take n).drop j).take c.toNat := by
  unfold forE
  rw [filter_between E j n hj hn (fun i hi => want_between h hj hn hi)]

/-- what was laid aside: what one has seen behind the first, the second .. -/
def setOf (E : List Ev) : List (Nat → Int) := (List.range (E.length + 1)).map fun i => vecOf (E.take i)
theorem setOf_length (E : List Ev) : (setOf E).length = E.length + 1 := by simp [setOf]
theorem setOf_get (E : List Ev) {i : Nat} (h : i < (setOf E).length) : (setOf E)[i] = vecOf (E.take i) := by simp [setOf]
theorem setOf_nil : setOf [] = [vecOf []] := by simp [setOf]
theorem setOf_snoc (E : List Ev) (x : Ev) : setOf (E ++ [x]) = setOf E ++ [vecOf (E ++ [x])] := by
  unfold setOf
  rw [show (E ++ [x]).length + 1 = (E.length + 1) + 1 by simp, List.range_succ, List.map_append]
  congr 1
  · apply List.map_congr_left
    intro i hi
    have := List.mem_range.1 hi
    rw [List.take_append_of_le_length (by omega)]
  · simp [List.take_of_length_le]
theorem vv_logx {w : World} {base g : Nat} {v : Value} {E : List Ev} (h : LOG w base g v E) {k : Nat} {cs : Array Value} (hk : blk w k = some (.cells cs 35 (0, 0))) : ¬ LogX g v k := fun hx => by
  rcases hx with rfl | e
  · rw [h.head] at hk
    cases hk
  · rcases h.own.2 with ⟨e2, _⟩ | ⟨g', c', cur, e2, _, hg, _⟩
    · rw [e2] at e; simp [Value.ownBlock] at e
    · rw [e2] at e
      have : k = g' := by simpa [Value.ownBlock] using e
      subst this
      unfold blk at hk
      rw [hg] at hk
      cases hk
theorem vv_own_blk {w : World} {base : Nat} {v : Value} {S : List (Nat → Int)} (h : OwnVV w base v S) {k : Nat} (e : v.ownBlock = some k) : ∃ cs, blk w k = some (.cells cs 35 (0, 0)) := by
  rcases h.2 with ⟨e2, _⟩ | ⟨g', c', cur, e2, _, hg, _⟩
  · rw [e2] at e; simp [Value.ownBlock] at e
  · rw [e2] at e
    have : k = g' := by simpa [Value.ownBlock] using e.symm
    subst this
    exact ⟨cur, hg⟩
theorem fold_vv1 (v : Nat → Int) : Array.foldl (fun (cs : Array Value) (x : Value × Nat) => cs.setIfInBounds x.snd x.fst) (vv z0) (vv v).zipIdx 0 16 = vv v := by simp [vv]
theorem fold_vv2 (v : Nat → Int) : Array.foldl (fun (cs : Array Value) (x : Value × Nat) => cs.setIfInBounds x.snd x.fst) #[Value.int .i64 0, .int .i64 0, .int .i64 0, .int .i64 0, .int .i64 0, .int .i64 0, .int .i64 0, .int .i64 0, .int .i64 0, .int .i64 0, .int .i64 0, .int .i64 0, .int .i64 0, .int .i64 0, .int .i64 0, .int .i64 0] (vv v).zipIdx 0 16 = vv v := by simp [vv]
noncomputable def loadVk (b k : Nat) (w : World) : Result Next := loadVV (.pointer (some ⟨b, k * 16, none⟩)) w
theorem loadVV_k (w : World) (b k : Nat) : loadVV (.pointer (some ⟨b, k * 16, none⟩)) w = match rowN 16 w b (k * 16) with | some cs => .ok (.value (.agg cs)) w | none => loadVk b k w := by
  split
  · rename_i cs h
    simp only [loadVV, Instr.loadAt, Instr.sureAddr, Sem.run_bind, Sem.run_pure, Result.andThen_ok, run_loadVar_rowN h Try.underlying35 rfl infoVV]
  · rfl

end Go.Proofs.Ytpdckjfkkiameaa
