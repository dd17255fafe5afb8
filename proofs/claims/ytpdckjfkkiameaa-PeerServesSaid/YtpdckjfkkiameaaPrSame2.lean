/- The contracts of Same (where the lists agree), Clone and Events. Conditions: the lists are no longer than can be. -/
import Derived.Test.YtpdckjfkkiameaaPrSame
import Derived.Lib.LazyBuf
namespace Go.Proofs.Ytpdckjfkkiameaa
open Go.RowKit
attribute [local go_sem] bmax2_int bmin2_int bmax_two bmin_two blk_alloc blk_setRow blk_setCell blk_drew blk_drewN alloc_setRow cell_setRow_ne drew_setRow drewN_setRow fold_z0 vv_size vv_get vv_set
attribute [local go_sem ↓] exec_load_vv exec_store_vv exec_index_vv exec_eql_vv exec_neq_vv
attribute [local go_sem] loadVV_at storeVV_at indexVV_at eqVV_eql eqVV_neq ne_r2 ne_l2 ne_r3 ne_l3 ne_r4 ne_l4 ne_r5 ne_l5 ne_r6 ne_l6 ne_r7 ne_l7 ne_r8 ne_l8
set_option linter.unusedVariables false
set_option linter.unusedSimpArgs false
attribute [local go_sem] rowN_drew fold_zE evA_size evA_get0 evA_get1 evA_get2 evA_get19 evA_get20 evA_get21 evA_get22 evA_get23 evA_get24 evA_get25 loadEv_at storeEv_at rowN_ev_new
attribute [local go_sem ↓] exec_load_ev exec_store_ev
attribute [local go_sem ↓] exec_eql_ev exec_neq_ev
attribute [local go_sem] eqEV_eql eqEV_neq

theorem EvSl.form {w : World} {v : Value} {L : List Ev} (h : EvSl w v L) : ∃ a cap, v = .slice a L.length cap := by
  obtain ⟨a, cap, e, _⟩ := h
  exact ⟨a, cap, e⟩
theorem EvSl.row {w : World} {a : Option Addr} {len cap : Nat} {L : List Ev} (h : EvSl w (.slice a len cap) L) {k : Nat} (hk : k < L.length) : ∃ b o, a = some ⟨b, o, none⟩ ∧ b < w.heap.size ∧ rowN 26 w b (o + k * 26) = some (evA L[k]) := by
  obtain ⟨a', cap', e, _, _, h1 | ⟨b, o, ea, hrow⟩⟩ := h
  · rw [h1] at hk; simp at hk
  · simp only [Value.slice.injEq] at e
    have hr := hrow k hk
    refine ⟨b, o, e.1.trans ea, ?_, hr⟩
    obtain ⟨h2, h3⟩ := rowN_cells hr
    have h4 := h3 0 (by omega)
    rw [Array.getElem?_eq_getElem (by omega)] at h4
    exact World.block_lt_of_cell? w _ h4

set_option maxHeartbeats 1000000 in
theorem same_any (x y : Value) (L : List Ev) (w : World) (hx : EvSl w x L) (hy : EvSl w y L) :
    Calls Try.prog 13 #[x, y] w fun e w' => e = .returned (.bool true) ∧ Below w.heap.size w w' := by
  obtain ⟨ax, cx, rfl⟩ := hx.form
  obtain ⟨ay, cy, rfl⟩ := hy.form
  have hm : L.length ≤ 9223372036854775807 := by
    obtain ⟨_, _, _, h1, h2, _⟩ := hx
    unfold maxLen at h2
    omega
  have HX := Lib.hid hx
  have HY := Lib.hid hy
  clear hx hy
  go_enter Try.func13, Try.ntmps13
  go_wp2_with fail
  go_loopw [13] (fun i wr => ∃ k : Nat, k ≤ L.length ∧ i = .int .i64 k ∧ Below w.heap.size w wr) (fun i _ => L.length - (intOf i).toNat)
  case atStart => exact ⟨0, by omega, rfl, Below.refl _ _⟩
  case round =>
    obtain ⟨k, hk, rfl, k0⟩ := hrel
    have K0 := Lib.hid k0
    clear k0
    by_cases hlt : k < L.length
    · obtain ⟨b1, o1, rfl, hb1, r1⟩ := HX.out.row hlt
      obtain ⟨b2, o2, rfl, hb2, r2⟩ := HY.out.row hlt
      replace r1 := rowN_keep K0.out r1
      replace r2 := rowN_keep K0.out r2
      have hs := sameEv_refl L[k]
      clear hb1 hb2
      go_wp2_with fail
      refine wp_region_held_drew (S := fun w' => Below w.heap.size w w' ∧ rowN 26 w' b1 (o1 + k * 26) = some (evA L[k]) ∧ rowN 26 w' b2 (o2 + k * 26) = some (evA L[k])) (by kernel_rfl) ⟨K0.out.drew, r1, r2⟩ (fun hHeld => ?_)
      refine wpAnyH_take (i := 0) (v := ?_) rfl (by kernel_rfl) (by kernel_rfl) (by kernel_rfl) (fun _ _ _ h => h) (Or.inl ⟨by rfl, ?_⟩) hHeld ?_
      rotate_left
      · intro w hSw; (try dsimp only at hSw); (try simp only [List.getElem_toArray, List.getElem_cons_succ, List.getElem_cons_zero]); (go_simp; try with_reducible rfl)
      try simp only [List.getElem_toArray, List.getElem_cons_succ, List.getElem_cons_zero, Act.put, List.setIfInBounds_toArray, List.set_cons_zero, List.set_cons_succ]
      refine wpAnyH_take (i := 1) (v := ?_) rfl (by kernel_rfl) (by kernel_rfl) (by kernel_rfl) (fun _ _ _ h => h) (Or.inl ⟨by rfl, ?_⟩) hHeld ?_
      rotate_left
      · intro w hSw; (try dsimp only at hSw); (try simp only [List.getElem_toArray, List.getElem_cons_succ, List.getElem_cons_zero]); (go_simp; try with_reducible rfl)
      try simp only [List.getElem_toArray, List.getElem_cons_succ, List.getElem_cons_zero, Act.put, List.setIfInBounds_toArray, List.set_cons_zero, List.set_cons_succ]
      refine wpAnyH_take (i := 2) (v := ?_) rfl (by kernel_rfl) (by kernel_rfl) (by kernel_rfl) (fun _ _ _ h => h) (Or.inl ⟨by rfl, ?_⟩) hHeld ?_
      rotate_left
      · intro w hSw; (try dsimp only at hSw); (try simp only [List.getElem_toArray, List.getElem_cons_succ, List.getElem_cons_zero]); (go_simp; try with_reducible rfl)
      try simp only [List.getElem_toArray, List.getElem_cons_succ, List.getElem_cons_zero, Act.put, List.setIfInBounds_toArray, List.set_cons_zero, List.set_cons_succ]
      refine wpAnyH_take (i := 3) (v := ?_) rfl (by kernel_rfl) (by kernel_rfl) (by kernel_rfl) (fun _ _ _ h => h) (Or.inl ⟨by rfl, ?_⟩) hHeld ?_
      rotate_left
      · intro w hSw; (try dsimp only at hSw); (try simp only [List.getElem_toArray, List.getElem_cons_succ, List.getElem_cons_zero]); (go_simp; try with_reducible rfl)
      try simp only [List.getElem_toArray, List.getElem_cons_succ, List.getElem_cons_zero, Act.put, List.setIfInBounds_toArray, List.set_cons_zero, List.set_cons_succ]
      refine wpAnyH_take (i := 4) (v := ?_) rfl (by kernel_rfl) (by kernel_rfl) (by kernel_rfl) (fun _ _ _ h => h) (Or.inl ⟨by rfl, ?_⟩) hHeld ?_
      rotate_left
      · intro w hSw; (try dsimp only at hSw); (try simp only [List.getElem_toArray, List.getElem_cons_succ, List.getElem_cons_zero]); (go_simp; try with_reducible rfl)
      try simp only [List.getElem_toArray, List.getElem_cons_succ, List.getElem_cons_zero, Act.put, List.setIfInBounds_toArray, List.set_cons_zero, List.set_cons_succ]
      refine wpAnyH_take (i := 5) (v := ?_) rfl (by kernel_rfl) (by kernel_rfl) (by kernel_rfl) (fun _ _ _ h => h) (Or.inl ⟨by rfl, ?_⟩) hHeld ?_
      rotate_left
      · intro w hSw; (try dsimp only at hSw); (try simp only [List.getElem_toArray, List.getElem_cons_succ, List.getElem_cons_zero]); (go_simp; try with_reducible rfl)
      try simp only [List.getElem_toArray, List.getElem_cons_succ, List.getElem_cons_zero, Act.put, List.setIfInBounds_toArray, List.set_cons_zero, List.set_cons_succ]
      refine wpAnyH_take (i := 6) (v := ?_) rfl (by kernel_rfl) (by kernel_rfl) (by kernel_rfl) (fun _ _ _ h => h) (Or.inl ⟨by rfl, ?_⟩) hHeld ?_
      rotate_left
      · intro w hSw; (try dsimp only at hSw); (try simp only [List.getElem_toArray, List.getElem_cons_succ, List.getElem_cons_zero]); (go_simp; try with_reducible rfl)
      try simp only [List.getElem_toArray, List.getElem_cons_succ, List.getElem_cons_zero, Act.put, List.setIfInBounds_toArray, List.set_cons_zero, List.set_cons_succ]
      refine wpAnyH_take (i := 7) (v := ?_) rfl (by kernel_rfl) (by kernel_rfl) (by kernel_rfl) (fun _ _ _ h => h) (Or.inl ⟨by rfl, ?_⟩) hHeld ?_
      rotate_left
      · intro w hSw; (try dsimp only at hSw); (try simp only [List.getElem_toArray, List.getElem_cons_succ, List.getElem_cons_zero]); (go_simp; try with_reducible rfl)
      try simp only [List.getElem_toArray, List.getElem_cons_succ, List.getElem_cons_zero, Act.put, List.setIfInBounds_toArray, List.set_cons_zero, List.set_cons_succ]
      refine wpAnyH_take (i := 8) (v := ?_) rfl (by kernel_rfl) (by kernel_rfl) (by kernel_rfl) (fun _ _ _ h => h) (Or.inl ⟨by rfl, ?_⟩) hHeld ?_
      rotate_left
      · intro w hSw; (try dsimp only at hSw); (try simp only [List.getElem_toArray, List.getElem_cons_succ, List.getElem_cons_zero]); (go_simp; try with_reducible rfl)
      try simp only [List.getElem_toArray, List.getElem_cons_succ, List.getElem_cons_zero, Act.put, List.setIfInBounds_toArray, List.set_cons_zero, List.set_cons_succ]
      refine wpAnyH_done (by kernel_rfl) ?_ _
      have Q := Lib.hid hHeld.1
      clear hHeld r1 r2 K0
      go_wp2
      go_roundw
      case rel => exact ⟨k + 1, by omega, by go_num, Q.out⟩
      case measure => simp [intOf]; omega
    · go_wp2
      go_ret
      exact ⟨rfl, K0.out⟩

theorem eql_nil_ev (w : World) (r : Option Addr) (n c : Nat) : (binOp .eql 27 (.slice r n c) (.slice none 0 0)).run Try.prog w = .ok (.bool r.isNone) w := run_eql_slice_nil w _ _ r n c Try.underlying27
theorem clone_any (v : Value) (L : List Ev) (w : World) (h : EvSl w v L) (hn : L.length ≤ 500000000000) :
    Calls Try.prog 39 #[v] w fun e w' => ∃ x, e = .returned x ∧ Below w.heap.size w w' ∧ OwnEv w' w.heap.size x L := by
  have HS := Lib.hid h
  obtain ⟨a, cap, rfl⟩ := h.form
  clear h
  have qS : ∀ (w : World) (r : Option Addr) (n c : Nat), (binOp .eql 27 (.slice r n c) (.slice none 0 0)).run Try.prog w = .ok (.bool r.isNone) w := eql_nil_ev
  go_enter Try.func39, Try.ntmps39
  have kA : Hid (Below w.heap.size w (w.alloc (.cells #[] 39))) := Lib.hid ((Below.refl w.heap.size w).alloc (Nat.le_refl _) _)
  have N1 := Lib.hid (show ([] : List Ev).length + L.length ≤ 600000000000 by simp; omega)
  cases a with
  | none =>
    have hL : L = [] := by
      obtain ⟨a', cap', e, _, _, h1 | ⟨b, o, ea, hrow⟩⟩ := HS.out
      · exact h1
      · simp only [Value.slice.injEq] at e
        rw [ea] at e
        exact absurd e.1 (by simp)
    subst hL
    go_wp2
    go_ret
    exact ⟨_, rfl, Below.refl _ _, OwnEv.nil _ _⟩
  | some ad =>
    go_wp2_with (first
      | (at_builtin; refine wpList_append_evC rfl _ _ rfl w.heap.size (.slice (some ⟨w.heap.size, 0, none⟩) 0 0) _ [] L rfl rfl (OwnEv.made w _ (Nat.le_refl _)) (HS.out.keep kA.out) N1.out kA.out.size ?_; intro v1 w5 O1 D1 T1)
      | fail)
    go_ret
    exact ⟨_, rfl, kA.out.trans D1.out, by simpa using O1.out⟩

theorem pevents_none (w : World) :
    Calls Try.prog 19 #[.pointer none] w fun e w' => e = .returned (.slice none 0 0) ∧ w' = w := by
  go_enter Try.func19, Try.ntmps19
  go_wp2
  go_ret
  exact ⟨rfl, rfl⟩
theorem pevents_any (base g : Nat) (v : Value) (L : List Ev) (w : World) (h : LOG w base g v L) (hn : L.length ≤ 500000000000) :
    Calls Try.prog 19 #[.pointer (some ⟨g, 0, none⟩)] w fun e w' => ∃ x, e = .returned x ∧ Below w.heap.size w w' ∧ OwnEv w' w.heap.size x L := by
  have hc := h.cell
  have HS := Lib.hid h.own.sl
  obtain ⟨a, cap, rfl⟩ := h.own.form
  clear h
  go_enter Try.func19, Try.ntmps19
  go_wp2_with fail
  refine Calls.mono (clone_any _ L w HS.out hn) ?_
  rintro e w2 ⟨x, rfl, hb', ho⟩
  have H1 := Lib.hid hb'
  have H2 := Lib.hid ho
  clear hb' ho
  go_wp2
  go_ret
  exact ⟨_, rfl, H1.out, H2.out⟩

end Go.Proofs.Ytpdckjfkkiameaa
