/- The contracts of DeleteFunc at Trim's own function, and of Trim. Conditions: the lists are no longer than can be. -/
import Derived.Test.YtpdckjfkkiameaaPrFor
import Derived.Test.YtpdckjfkkiameaaPrSame2
namespace Go.Proofs.Ytpdckjfkkiameaa
open Go.RowKit
attribute [local go_sem] bmax2_int bmin2_int bmax_two bmin_two blk_alloc blk_setRow blk_setCell blk_drew blk_drewN alloc_setRow cell_setRow_ne drew_setRow drewN_setRow fold_z0 vv_size vv_get vv_set
attribute [local go_sem ↓] exec_load_vv exec_store_vv exec_index_vv exec_eql_vv exec_neq_vv
attribute [local go_sem] loadVV_at storeVV_at indexVV_at eqVV_eql eqVV_neq ne_r2 ne_l2 ne_r3 ne_l3 ne_r4 ne_l4 ne_r5 ne_l5 ne_r6 ne_l6 ne_r7 ne_l7 ne_r8 ne_l8
set_option linter.unusedVariables false
set_option linter.unusedSimpArgs false
attribute [local go_sem] rowN_drew fold_zE evA_size evA_get0 evA_get1 evA_get2 evA_get19 evA_get20 evA_get21 evA_get22 evA_get23 evA_get24 evA_get25 loadEv_at storeEv_at rowN_ev_new
attribute [local go_sem ↓] exec_load_ev exec_store_ev

theorem setRow_grown' (w : World) (g : Nat) (cs : Array Value) : w.grownBy (w.setRow g cs) (some g) := ⟨rfl, rfl, rfl, by simp, fun k hk hne => setRow_other _ _ _ _ (fun e => hne (by rw [e]))⟩
theorem grown_blk' {w w' : World} {g k : Nat} {o : Obj} (h : w.grownBy w' (some g)) (hk : k ≠ g) (hb : blk w k = some o) : blk w' k = some o := by
  unfold blk at *
  rw [h.block k (Array.getElem?_eq_some_iff.1 hb).1 (fun e => hk (by simpa using e))]; exact hb
theorem zeros_one (n : Nat) : ∀ u ∈ (Builtin.zeroCells (Value.agg (evA zE)).cells n).toList, u.oneCell' = true := by
  intro u hu
  have h := Array.all_eq_true_iff_forall_mem.1 (evA_one zE)
  unfold Builtin.zeroCells at hu
  rw [Array.mem_toList_iff, Array.mem_map] at hu
  obtain ⟨i, _, rfl⟩ := hu
  have hk : i % (evA zE).size < (evA zE).size := Nat.mod_lt _ (by rw [evA_size]; omega)
  show ((evA zE)[i % (evA zE).size]!).oneCell' = true
  rw [getElem!_pos (evA zE) (i % (evA zE).size) hk]
  exact h _ (Array.getElem_mem hk)
/-- the vector has it. -/
def hadB (a : Nat → Int) (e : Ev) : Bool := hasB a e.r e.n
theorem clos_any (gv : Nat) (a : Nat → Int) (x : Ev) (w : World) (h : blk w gv = some (.cells (vv a) 35)) :
    Calls Try.prog 38 #[.agg (evA x), .pointer (some ⟨gv, 0, none⟩)] w fun e w' => e = .returned (.bool (hadB a x)) ∧ Below w.heap.size w w' := by
  go_enter Try.func38, Try.ntmps38
  have hgl : gv < w.heap.size := VBox.lt h
  have hgn : gv ≠ w.heap.size := by omega
  go_wp2_with fail
  have hB := (Below.refl w.heap.size w).alloc (Nat.le_refl _) (Obj.cells (evA x) 39)
  generalize w.alloc (Obj.cells (evA x) 39) = w1 at *
  refine Calls.mono (has_any a x.r x.n w1) ?_
  rintro e w2 ⟨rfl, hb'⟩
  have k0 := Lib.hid (hB.trans (hb'.mono hB.size))
  clear hb' hB
  go_wp2
  go_ret
  exact ⟨rfl, k0.out⟩

theorem evs_take (C : List Ev) (i : Nat) (hi : i ≤ C.length) : evs (C.take i) = (evs C).take (i * 26) := by
  have h : evs C = evs (C.take i) ++ evs (C.drop i) := by rw [← evs_append, List.take_append_drop]
  have hl : (evs (C.take i)).length = i * 26 := by rw [evs_length, List.length_take, Nat.min_eq_left hi]
  rw [h, ← hl, List.take_left]
theorem evs_drop (C : List Ev) (i : Nat) (hi : i ≤ C.length) : evs (C.drop i) = (evs C).drop (i * 26) := by
  have h : evs C = evs (C.take i) ++ evs (C.drop i) := by rw [← evs_append, List.take_append_drop]
  have hl : (evs (C.take i)).length = i * 26 := by rw [evs_length, List.length_take, Nat.min_eq_left hi]
  rw [h, ← hl, List.drop_left]
theorem evs_set (C : List Ev) (i : Nat) (x : Ev) (hi : i < C.length) : evs (C.set i x) = (evs C).take (i * 26) ++ (evA x).toList ++ (evs C).drop (i * 26 + 26) := by
  rw [List.set_eq_take_append_cons_drop, if_pos hi, evs_append, evs_take C i (by omega)]
  rw [show evs (x :: C.drop (i + 1)) = (evA x).toList ++ evs (C.drop (i + 1)) by simp [evs], evs_drop C (i + 1) (by omega), show (i + 1) * 26 = i * 26 + 26 by omega, List.append_assoc]
/-- an event stored in a list's own block. -/
theorem own_set {w : World} {base g n cap : Nat} {C : List Ev} (h : OwnEv w base (.slice (some ⟨g, 0, none⟩) n cap) C) {i : Nat} (hi : i < C.length) (x : Ev) :
    ∃ w', storeEv (.pointer (some ⟨g, i * 26, none⟩)) (.agg (evA x)) w = .ok .skip w' ∧ OwnEv w' base (.slice (some ⟨g, 0, none⟩) n cap) (C.set i x) ∧ w.grownBy w' (some g) := by
  rcases h.2 with ⟨e, _⟩ | ⟨g', cap', cur, e, hb, hg, hc, hm, hs, ht⟩
  · cases e
  · simp only [Value.slice.injEq, Option.some.injEq, Addr.mk.injEq, and_true] at e
    obtain ⟨rfl, rfl, rfl⟩ := e
    have hx : (evA x).toList.length = 26 := by rw [Array.length_toList, evA_size]
    have hcl : C.length * 26 ≤ cur.size := by rw [hs]; exact Nat.mul_le_mul_right 26 hc
    have h1 : i * 26 + 26 ≤ C.length * 26 := by
      have := Nat.mul_le_mul_right 26 (show i + 1 ≤ C.length from hi)
      omega
    have hst := run_storeCells_at Try.prog g (i * 26) 39 (evA x).toList 0 cur w hg (by omega) (fun v hv => (Array.all_eq_true_iff_forall_mem.1 (evA_one x)) v (by simpa using hv))
    have hsz : (Go.sizeOf 39).run Try.prog w = .ok 26 w := by kernel_rfl
    rw [hx, Nat.add_zero] at hst
    have hE : cur.toList = evs C ++ cur.toList.drop (C.length * 26) := by rw [← ht, List.take_append_drop]
    have hEl : (evs C).length = C.length * 26 := evs_length C
    have hcells : cur.toList.take (i * 26) ++ (evA x).toList ++ cur.toList.drop (i * 26 + 26) = evs (C.set i x) ++ cur.toList.drop (C.length * 26) := by
      conv => lhs; rw [hE]
      rw [List.take_append_of_le_length (by omega), List.drop_append_of_le_length (by omega), evs_set C i x hi]
      simp [List.append_assoc]
    rw [hcells] at hst
    refine ⟨w.setRow g (evs (C.set i x) ++ cur.toList.drop (C.length * 26)).toArray, ?_, ⟨by rw [evs_length], .inr ⟨g, cap, _, by rw [List.length_set], hb, setRow_heap w g cur _ _ _ hg, by rw [List.length_set]; exact hc, hm, ?_, ?_⟩⟩, setRow_grown' w g _⟩
    · simp [storeEv, Instr.storeAt, Instr.sureAddr, storeVar, Sem.run_bind, hsz, Value.cells, evA_size, hst]
    · simp only [List.size_toArray, List.length_append, List.length_drop, Array.length_toList, evs_length, List.length_set]
      omega
    · rw [List.length_set]
      show List.take (C.length * 26) (evs (C.set i x) ++ _) = _
      have : (evs (C.set i x)).length = C.length * 26 := by rw [evs_length, List.length_set]
      rw [← this, List.take_left]
/-- the end of a list's own block cleared. -/
theorem own_clear {w : World} {base g n cap : Nat} {C : List Ev} (h : OwnEv w base (.slice (some ⟨g, 0, none⟩) n cap) C) {i : Nat} (hi : i < C.length) (c : Nat) :
    ∃ w', (∀ ty, (Builtin.clear_ #[27] ty #[.slice (some ⟨g, i * 26, none⟩) (C.length - i) c]).run Try.prog w = .ok (.tuple #[]) w') ∧ OwnEv w' base (.slice (some ⟨g, 0, none⟩) i cap) (C.take i) ∧ w.grownBy w' (some g) := by
  rcases h.2 with ⟨e, _⟩ | ⟨g', cap', cur, e, hb, hg, hc, hm, hs, ht⟩
  · cases e
  · simp only [Value.slice.injEq, Option.some.injEq, Addr.mk.injEq, and_true] at e
    obtain ⟨rfl, rfl, rfl⟩ := e
    obtain ⟨i0, hinf, hz0, hz1, hz2⟩ := info_parts infoEvAll
    have hzl : (Builtin.zeroCells (Value.agg (evA zE)).cells (C.length - i)).toList.length = (C.length - i) * 26 := by rw [Array.length_toList, size_zeroCells]; rfl
    have hcl : C.length * 26 ≤ cur.size := by rw [hs]; exact Nat.mul_le_mul_right 26 hc
    have h1 : i * 26 + (C.length - i) * 26 = C.length * 26 := by rw [← Nat.add_mul]; congr 1; omega
    have hst := run_storeCells_at Try.prog g (i * 26) 39 (Builtin.zeroCells (Value.agg (evA zE)).cells (C.length - i)).toList 0 cur w hg (by omega) (zeros_one _)
    rw [Nat.add_zero] at hst
    have hne : C.length - i ≠ 0 := by omega
    have hl : (C.take i).length = i := by rw [List.length_take]; omega
    refine ⟨w.setRow g (cur.toList.take (i * 26) ++ (Builtin.zeroCells (Value.agg (evA zE)).cells (C.length - i)).toList ++ cur.toList.drop (i * 26 + (Builtin.zeroCells (Value.agg (evA zE)).cells (C.length - i)).toList.length)).toArray, fun ty => ?_, ⟨by rw [evs_length], .inr ⟨g, cap, _, by rw [hl], hb, setRow_heap w g cur _ _ _ hg, by rw [hl]; omega, hm, ?_, ?_⟩⟩, setRow_grown' w g _⟩
    · unfold Builtin.clear_
      obtain ⟨m, hm⟩ : ∃ m, C.length - i = m + 1 := ⟨C.length - i - 1, by omega⟩
      rw [hm] at hst ⊢
      simp [Sem.run_bind, run_underlying Try.underlying27, zeroValue, typeInfo, hinf, hz0, hst]
    · simp only [List.size_toArray, List.length_append, List.length_take, List.length_drop, Array.length_toList, size_zeroCells]
      rw [show (Value.agg (evA zE)).cells.size = 26 from rfl]
      omega
    · rw [hl, evs_take C i (by omega), ← ht]
      show List.take (i * 26) (cur.toList.take (i * 26) ++ _ ++ _) = _
      have h2 : (cur.toList.take (i * 26)).length = i * 26 := by rw [List.length_take, Array.length_toList]; omega
      rw [List.append_assoc, List.take_append_of_le_length (by omega), List.take_take, List.take_take]
      congr 1
      omega

/-- the place of the first that the vector has. -/
def idxI (a : Nat → Int) (L : List Ev) : Int := if L.findIdx (hadB a) < L.length then (L.findIdx (hadB a) : Int) else -1
set_option maxHeartbeats 1000000 in
theorem index_any (gv : Nat) (a : Nat → Int) (v : Value) (L : List Ev) (w : World) (h : EvSl w v L) (hv : blk w gv = some (.cells (vv a) 35)) (hn : L.length ≤ 500000000000) :
    Calls Try.prog 45 #[v, .func (Fn.func 38) #[] #[.pointer (some ⟨gv, 0, none⟩)]] w fun e w' => e = .returned (.int .i64 (idxI a L)) ∧ Below w.heap.size w w' := by
  obtain ⟨ax, cx, rfl⟩ := h.form
  have HX := Lib.hid h
  have HV := Lib.hid hv
  have hI : Hid (idxI a L = if L.findIdx (hadB a) < L.length then (L.findIdx (hadB a) : Int) else -1) := Lib.hid rfl
  clear h hv
  go_enter Try.func45, Try.ntmps45
  go_wp2_with fail
  go_loopw [8] (fun i wr => ∃ k : Nat, k ≤ L.length ∧ k ≤ L.findIdx (hadB a) ∧ i = .int .i64 k ∧ Below w.heap.size w wr) (fun i _ => L.length - (intOf i).toNat)
  case atStart => exact ⟨0, by omega, by omega, rfl, Below.refl _ _⟩
  case round =>
    obtain ⟨k, hk, hk2, rfl, k0⟩ := hrel
    have K0 := Lib.hid k0
    have hsz : w.heap.size ≤ wr.heap.size := k0.size
    clear k0
    by_cases hlt : k < L.length
    · obtain ⟨b1, o1, rfl, hb1, r1⟩ := HX.out.row hlt
      replace r1 := rowN_keep K0.out r1
      have hv := Lib.hid (gblk K0.out HV.out)
      have hy : Hid (hadB a L[k] = true → L.findIdx (hadB a) = k) := Lib.hid fun hh => by
        rcases Nat.lt_or_ge k (L.findIdx (hadB a)) with h1 | h1
        · exact absurd hh (by have := List.not_of_lt_findIdx h1; simpa using this)
        · omega
      have hz : Hid (hadB a L[k] = false → k + 1 ≤ L.findIdx (hadB a)) := Lib.hid fun hh => by
        rcases Nat.lt_or_ge k (L.findIdx (hadB a)) with h1 | h1
        · exact h1
        · have e : L.findIdx (hadB a) = k := by omega
          have := List.findIdx_getElem (p := hadB a) (xs := L) (w := by rw [e]; exact hlt)
          simp only [e] at this
          rw [hh] at this
          cases this
      clear hb1
      generalize L[k] = x at *
      go_wp2_with fail
      refine Calls.mono (clos_any gv a x wr hv.out) ?_
      rintro e w2 ⟨rfl, hb'⟩
      replace K0 := Lib.hid (K0.out.trans (hb'.mono hsz))
      clear hb' r1 hv
      cases hh : hadB a x
      · have h3 := hz.out hh
        go_wp2
        go_roundw
        case rel => exact ⟨k + 1, by omega, h3, by go_num, K0.out⟩
        case measure => simp [intOf]; omega
      · have h3 := hy.out hh
        go_wp2
        go_ret
        exact ⟨by rw [hI.out, h3, if_pos hlt]; rfl, K0.out⟩
    · have h3 : ¬ L.findIdx (hadB a) < L.length := by omega
      go_wp2
      go_ret
      exact ⟨by rw [hI.out, if_neg h3]; rfl, K0.out⟩

def keptB (a : Nat → Int) (e : Ev) : Bool := !hadB a e
theorem filt_first {a : Nat → Int} {L : List Ev} : (L.take (L.findIdx (hadB a))).filter (keptB a) = L.take (L.findIdx (hadB a)) := by
  rw [List.filter_eq_self]
  intro e he
  obtain ⟨i, hi, rfl⟩ := List.mem_iff_getElem.1 he
  have h1 : i < L.findIdx (hadB a) := by rw [List.length_take] at hi; omega
  have := List.not_of_lt_findIdx h1
  rw [List.getElem_take]
  unfold keptB
  simpa using this
theorem filt_none {a : Nat → Int} {L : List Ev} (h : ¬ L.findIdx (hadB a) < L.length) : L.filter (keptB a) = L := by
  have h1 : L.findIdx (hadB a) = L.length := by have := List.findIdx_le_length (p := hadB a) (xs := L); omega
  have := filt_first (a := a) (L := L)
  rw [h1, List.take_length] at this
  exact this
set_option maxHeartbeats 2000000 in
theorem delete_any (base gv : Nat) (a : Nat → Int) (v : Value) (L : List Ev) (w : World) (h : OwnEv w base v L) (hv : blk w gv = some (.cells (vv a) 35)) (hn : L.length ≤ 500000000000) :
    Calls Try.prog 37 #[v, .func (Fn.func 38) #[] #[.pointer (some ⟨gv, 0, none⟩)]] w fun e w' => ∃ v', e = .returned v' ∧ Fr (fun k => some k = v.ownBlock) w w' ∧ OwnEv w' base v' (L.filter (keptB a)) ∧ v'.ownBlock = v.ownBlock := by
  obtain ⟨ax, cx, rfl⟩ := h.form
  have HO := Lib.hid h
  have HV := Lib.hid hv
  clear h hv
  go_enter Try.func37, Try.ntmps37
  go_wp2_with fail
  refine Calls.mono (index_any gv a _ L w HO.out.sl HV.out hn) ?_
  rintro e w2 ⟨rfl, hb'⟩
  by_cases hi : L.findIdx (hadB a) < L.length
  rotate_left
  · have e1 : idxI a L = -1 := by unfold idxI; rw [if_neg hi]
    rw [e1]
    have R0 := Lib.hid (Fr.of_below (X := fun k => some k = (Value.slice ax L.length cx).ownBlock) hb')
    have R1 := Lib.hid (HO.out.below hb')
    clear hb'
    go_wp2
    go_ret
    exact ⟨_, rfl, R0.out, by rw [filt_none hi]; exact R1.out, rfl⟩
  have e1 : idxI a L = L.findIdx (hadB a) := by unfold idxI; rw [if_pos hi]
  rw [e1]
  clear e1
  have hd0 : Hid (hadB a L[L.findIdx (hadB a)] = true) := Lib.hid List.findIdx_getElem
  have ht0 : Hid (L.take (L.findIdx (hadB a)) = (L.take (L.findIdx (hadB a) + 1)).filter (keptB a)) := Lib.hid (by
    rw [List.take_succ_eq_append_getElem hi, List.filter_append, filt_first]
    have : keptB a L[L.findIdx (hadB a)] = false := by unfold keptB; rw [hd0.out]; rfl
    simp [this])
  generalize L.findIdx (hadB a) = i0 at *
  obtain ⟨gs, rfl⟩ : ∃ gs, ax = some ⟨gs, 0, none⟩ := by
    rcases HO.out.2 with ⟨e, _⟩ | ⟨g', c', cur, e, _⟩
    · simp only [Value.slice.injEq] at e
      omega
    · simp only [Value.slice.injEq] at e
      exact ⟨g', e.1⟩
  have hgs : gs < w.heap.size := (HO.out.lt gs rfl).2
  have R0 := Lib.hid (Fr.of_below (X := fun k => k = gs) hb')
  have R1 := Lib.hid (HO.out.below hb')
  have R2 := Lib.hid (gblk hb' HV.out)
  have hvg : gv ≠ gs := fun e => by
    subst e
    have h2 := HV.out
    obtain ⟨_, hh⟩ := HO.out
    rcases hh with ⟨e, _⟩ | ⟨g', c', cur, e, _, hg, _⟩
    · cases e
    · simp only [Value.slice.injEq, Option.some.injEq, Addr.mk.injEq, and_true] at e
      obtain ⟨rfl, _⟩ := e
      unfold blk at h2
      rw [hg] at h2
      cases h2
  have hcx : L.length ≤ cx ∧ cx ≤ maxLen := by
    obtain ⟨_, c', e, h1, h2, _⟩ := HO.out.sl
    simp only [Value.slice.injEq] at e
    rw [e.2.2]
    exact ⟨h1, h2⟩
  have hcm : cx ≤ 9223372036854775807 := by have := hcx.2; unfold maxLen at this; omega
  clear hb' HO
  go_wp2_with fail
  go_loopw [5, 6] (fun v5 v6 wr => ∃ (i j : Nat) (C : List Ev), i < j ∧ j ≤ L.length ∧ v5 = .int .i64 i ∧ v6 = .int .i64 j ∧ C.length = L.length ∧ C.take i = (L.take j).filter (keptB a) ∧ C.drop j = L.drop j ∧ Fr (fun k => k = gs) w wr ∧ OwnEv wr base (.slice (some ⟨gs, 0, none⟩) L.length cx) C ∧ blk wr gv = some (.cells (vv a) 35)) (fun _ v6 _ => L.length - (intOf v6).toNat)
  case atStart => exact ⟨i0, i0 + 1, L, by omega, by omega, rfl, by go_num, rfl, ht0.out, rfl, R0.out, R1.out, R2.out⟩
  case round =>
    obtain ⟨i, j, C, hij, hjn, rfl, rfl, hCl, hCt, hCd, q0, q1, q2⟩ := hrel
    replace R0 := Lib.hid q0
    replace R1 := Lib.hid q1
    have HT := Lib.hid hCt
    have HD := Lib.hid hCd
    have hsz : w.heap.size ≤ wr.heap.size := q0.size
    have hgw : gv < wr.heap.size := VBox.lt q2
    replace R2 := Lib.hid q2
    clear q0 q1 q2 hCt hCd ht0 hd0
    by_cases hlt : j < L.length
    · obtain ⟨b1, o1, eb, hb1, r1⟩ := R1.out.sl.row (k := j) (by omega)
      simp only [Option.some.injEq, Addr.mk.injEq, and_true] at eb
      obtain ⟨rfl, rfl⟩ := eb
      rw [Nat.zero_add] at r1
      have hCj : C[j]'(by omega) = L[j] := by
        have h1 := List.getElem?_drop (xs := C) (i := j) (j := 0)
        have h2 := List.getElem?_drop (xs := L) (i := j) (j := 0)
        rw [HD.out, h2] at h1
        rw [Nat.add_zero, List.getElem?_eq_getElem hlt, List.getElem?_eq_getElem (by omega)] at h1
        exact (Option.some.inj h1).symm
      rw [hCj] at r1
      have hsu := Lib.hid (filter_succ (p := keptB a) hlt)
      have hW : Hid (keptB a L[j] = !hadB a L[j]) := Lib.hid rfl
      clear hCj hb1
      generalize L[j] = x at *
      have hji : (j : Int) < L.length := by omega
      have hB := (Below.refl wr.heap.size wr).alloc (Nat.le_refl _) (Obj.cells (evA x) 39)
      have A0 := Lib.hid (R0.out.trans (Fr.of_below hB))
      have A1 := Lib.hid (R1.out.below hB)
      have A2 := Lib.hid (gblk hB R2.out)
      have ax := gblk_new wr (Obj.cells (evA x) 39)
      have hgx : gs ≠ wr.heap.size := by omega
      clear R0 R1 R2 hB
      go_wp2_with fail
      clear r1
      generalize wr.alloc (Obj.cells (evA x) 39) = w3 at *
      generalize hgb : wr.heap.size = gb at *
      clear hgb
      refine Calls.mono (clos_any gv a x w3 A2.out) ?_
      rintro e w4 ⟨rfl, hb'⟩
      replace A0 := Lib.hid (A0.out.trans (Fr.of_below hb'))
      replace A1 := Lib.hid (A1.out.below hb')
      replace A2 := Lib.hid (gblk hb' A2.out)
      replace ax := gblk hb' ax
      clear hb'
      cases hh : hadB a x
      rotate_left
      · have e1 : Hid (keptB a x = false) := Lib.hid (by rw [hW.out, hh]; rfl)
        clear ax
        go_wp2
        go_roundw
        case rel => exact ⟨_, _, _, _, _, _, _, _, _, _, _, _, _, _, _, _, _, _, _, _, _, _, _, ⟨i, j + 1, C, by omega, by omega, rfl, by go_num, hCl, by rw [hsu.out, e1.out, HT.out]; simp, by rw [← List.drop_drop, ← List.drop_drop, HD.out], A0.out, A1.out, A2.out⟩, rfl⟩
        case measure => simp [intOf]; omega
      · have e1 : Hid (keptB a x = true) := Lib.hid (by rw [hW.out, hh]; rfl)
        have rx := rowN_blk (n := 26) ax rfl
        have hii : (i : Int) < L.length := by omega
        obtain ⟨w5, hst, O5, G5⟩ := own_set A1.out (i := i) (by omega) x
        have B0 := Lib.hid (A0.out.trans (Fr.of_grown G5 (fun k e => by simpa using e)))
        have B1 := Lib.hid O5
        have B2 := Lib.hid (grown_blk' G5 hvg A2.out)
        clear ax O5 G5 A0 A1 A2
        go_wp2
        go_roundw
        case rel =>
          have z1 : (C.set i x).take (i + 1) = (L.take (j + 1)).filter (keptB a) := by
            rw [hsu.out, e1.out, ← HT.out, List.take_succ_eq_append_getElem (by simp [hCl]; omega)]
            simp [List.take_set_of_le]
          have z2 : (C.set i x).drop (j + 1) = L.drop (j + 1) := by
            rw [List.drop_set_of_lt (by omega), ← List.drop_drop, ← List.drop_drop, HD.out]
          exact ⟨_, _, _, _, _, _, _, _, _, _, _, _, _, _, _, _, _, _, _, _, _, _, _, ⟨i + 1, j + 1, C.set i x, by omega, by omega, by go_num, by go_num, by simp [hCl], z1, z2, B0.out, B1.out, B2.out⟩, rfl⟩
        case measure => simp [intOf]; omega
    · have ej : j = L.length := by omega
      subst ej
      have hci : i < C.length := by omega
      obtain ⟨w5, hcl, O5, G5⟩ := own_clear R1.out hci (cx - i)
      rw [HT.out, List.take_length] at O5
      rw [hCl] at hcl
      have B0 := Lib.hid (R0.out.trans (Fr.of_grown G5 (fun k e => by simpa using e)))
      have B1 := Lib.hid O5
      have hil : (i : Int) ≤ L.length := by omega
      have hic : i ≤ cx := by omega
      have hne : ¬ cx = i := by omega
      clear O5 G5 R0 R1 R2
      go_wp2
      go_ret
      refine ⟨_, rfl, B0.out.mono (fun k _ e => by rw [e]; rfl), ?_, ?_⟩
      · first
          | exact B1.out
          | simpa using B1.out
      · rfl

set_option maxHeartbeats 1000000 in
theorem trim_any (base g : Nat) (v : Value) (L : List Ev) (a : Nat → Int) (w : World) (h : LOG w base g v L) (hn : L.length ≤ 500000000000) :
    Calls Try.prog 16 #[.pointer (some ⟨g, 0, none⟩), .agg (vv a)] w fun e w' => e = .returned (.int .i64 ((L.length : Int) - (L.filter (keptB a)).length)) ∧ Fr (LogX g v) w w' ∧ ∃ v', LOG w' base g v' (L.filter (keptB a)) ∧ v'.ownBlock = v.ownBlock := by
  have hc := h.cell
  have hlt := h.lt
  obtain ⟨av, cap, rfl⟩ := h.own.form
  have hg5 : g ≠ w.heap.size := by omega
  go_enter Try.func16, Try.ntmps16
  go_wp2_with fail
  have hB := (Below.refl w.heap.size w).alloc (Nat.le_refl _) (Obj.cells (vv a) 35)
  have k1 := h.keep hB
  have k2 := gblk_new w (Obj.cells (vv a) 35)
  have k0 := Lib.hid (Fr.of_below (X := LogX g (Value.slice av L.length cap)) hB)
  have hgv : (Value.slice av L.length cap).ownBlock ≠ some g := h.ne (by decide)
  clear h hc hB
  generalize w.alloc (Obj.cells (vv a) 35) = w1 at *
  generalize w.heap.size = gv at *
  refine Calls.mono (delete_any base gv a _ L w1 k1.own k2 hn) ?_
  rintro e w2 ⟨v', rfl, hF, ho, hv⟩
  replace k0 := Lib.hid (k0.out.trans (hF.mono (fun k _ e => .inr e)))
  have kh : blk w2 g = some (.cells #[.slice av L.length cap] 31 (0, 0)) := hF.blk (fun e => hgv e.symm) k1.head
  have hf := frozen_of_row w2 g 0 _ _ kh
  have hc2 := cell_of_row w2 g 0 _ _ _ kh
  have hne : v'.ownBlock ≠ some g := by rw [hv]; exact hgv
  have P := Lib.hid (LogT.put kh ho hne k1.base_le)
  have PF : Hid (Fr (LogX g (Value.slice av L.length cap)) w (w2.setCell ⟨g, 0, none⟩ v')) := Lib.hid (k0.out.trans (Fr.setCell w2 g 0 v' (.inl rfl)))
  obtain ⟨a2, c2, rfl⟩ := ho.form
  have HV := Lib.hid hv
  have hFl : (L.filter (keptB a)).length ≤ L.length := List.length_filter_le _ _
  have hc3 : (w2.setCell ⟨g, 0, none⟩ (Value.slice a2 (L.filter (keptB a)).length c2)).cell? ⟨g, 0, none⟩ = some (Value.slice a2 (L.filter (keptB a)).length c2) := P.out.cell
  clear hF ho k1 k2 kh hv hne hgv
  go_wp2
  go_ret
  exact ⟨rfl, PF.out, _, P.out, HV.out⟩

end Go.Proofs.Ytpdckjfkkiameaa
