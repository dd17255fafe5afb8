/- The contract of the reference's Cut. No conditions. -/
import Derived.Test.YthjeginhoddmiaaRxStable
import Derived.Test.YthjeginhoddmiaaMxCut
namespace Go.Proofs.Ythjeginhoddmiaa
open Go.RowKit
attribute [local go_sem] bmax2_int bmin2_int bmax_two bmin_two blk_alloc blk_setRow blk_setCell blk_drew blk_drewN alloc_setRow cell_setRow_ne drew_setRow drewN_setRow fold_z0 vv_size vv_get vv_set
attribute [local go_sem ↓] exec_load_vv exec_store_vv exec_index_vv exec_eql_vv exec_neq_vv
attribute [local go_sem] storeVV_at indexVV_at eqVV_eql eqVV_neq ne_r2 ne_l2 ne_r3 ne_l3 ne_r4 ne_l4 ne_r5 ne_l5 ne_r6 ne_l6 ne_r7 ne_l7 ne_r8 ne_l8
set_option linter.unusedVariables false
set_option linter.unusedSimpArgs false
attribute [local go_sem] loadVV_rx loadVV_r0 storeVV_rx rowR_rx rowR_rx0 rowR_vv putR_rx rxA_size makeVVs_int
attribute [local go_sem ↓] exec_make_vvs

set_option maxHeartbeats 1000000 in
theorem rcut_any (p g n : Nat) (M : Nat → Nat → Int) (s : Nat → Int) (w : World) (hn : 0 < n ∧ n ≤ 16) (h : RX w p g n M) :
    Calls Try.prog 39 #[.pointer (some ⟨p, 0, none⟩), .agg (vv s)] w fun e w' => e = .returned (.agg (vv (cutF n M s))) ∧ Below w.heap.size w w' := by
  have hF : Hid (cutF n M s = if cutB n M s then stabF n M else z0) := Lib.hid rfl
  have hpg := h.ne hn.1
  have hpl : p < w.heap.size := (Array.getElem?_eq_some_iff.1 (show w.heap[p]? = _ from h.1)).1
  have hgl : g < w.heap.size := (Array.getElem?_eq_some_iff.1 (show w.heap[g]? = _ from h.2)).1
  have hn0 : 0 < n := hn.1
  go_enter Try.func39, Try.ntmps39
  have c0 := h.cell
  have hpb : p ≠ w.heap.size := by omega
  have hgb : g ≠ w.heap.size := by omega
  have hpb1 : p ≠ w.heap.size + 1 := by omega
  go_wp2_with fail
  have k0 := Lib.hid (((Below.refl w.heap.size w).alloc (Nat.le_refl _) (Obj.cells (vv s) 23)).alloc (by simp) (Obj.cells (vv z0) 23))
  have k3 := Lib.hid (gblk_alloc (Obj.cells (vv z0) 23) (gblk_new w (Obj.cells (vv s) 23)))
  have k1 := gblk_new (w.alloc (Obj.cells (vv s) 23)) (Obj.cells (vv z0) 23)
  rw [show (w.alloc (Obj.cells (vv s) 23)).heap.size = w.heap.size + 1 by simp] at k1
  have K1 := Lib.hid k1
  have k2 := Lib.hid ((h.alloc (Obj.cells (vv s) 23)).alloc (Obj.cells (vv z0) 23))
  clear h c0 k1
  generalize (w.alloc (Obj.cells (vv s) 23)).alloc (Obj.cells (vv z0) 23) = w1 at *
  generalize hg : w.heap.size = g1 at *
  go_loopw [11] (fun i wr => ∃ j : Nat, j ≤ n ∧ i = .int .i64 j ∧ (∀ r : Nat, r < j → M r r ≤ s r) ∧ Below g1 w wr ∧ blk wr (g1 + 1) = some (.cells (vv z0) 23) ∧ RX wr p g n M ∧ blk wr g1 = some (.cells (vv s) 23)) (fun i _ => 16 - (intOf i).toNat)
  case atStart => exact ⟨0, by omega, rfl, fun r hr => absurd hr (by omega), k0.out, K1.out, k2.out, k3.out⟩
  case round =>
    obtain ⟨j, hjn, rfl, hall, q0, q1, q2, q3⟩ := hrel
    have HA := Lib.hid hall
    have P0 := Lib.hid q0
    have P2 := Lib.hid q2
    clear hall q0
    by_cases hlt : j < n
    · have hlt2 : (j : Int) < n := by omega
      have hji : (j : Int) < 16 := by omega
      have hj : j < 16 := by omega
      have c0 := q2.cell
      have c1 : wr.cell? ⟨g, j * 16 + j, none⟩ = some (.int .i64 (M j j)) := (cell_of_row wr g _ _ _ _ q2.2).trans (rxA_getM n M hlt hj)
      have c2 : wr.cell? ⟨g1, j, none⟩ = some (.int .i64 (s j)) := (cell_of_row wr g1 _ _ _ _ q3).trans (vv_get s hj)
      have E := Lib.hid (fun hc : s j < M j j => cutB_not (n := n) hlt2 hc)
      have HA2 : Hid (¬ s j < M j j → ∀ r : Nat, r < j + 1 → M r r ≤ s r) := Lib.hid fun hc r hr => by
        by_cases e : r = j
        · subst e; omega
        · exact HA.out r (by omega)
      generalize M j j = x at *
      generalize s j = y at *
      have P1 := Lib.hid q1
      have P3 := Lib.hid q3
      clear q2 q3
      by_cases hc : y < x
      · go_wp2_with fail
        go_region
        all_goals go_wp2
        all_goals refine bodyPost_ret (v := .agg (vv z0)) ?_ rfl ⟨by rw [hF.out, E.out hc]; rfl, ?_⟩
        · exact results_cell_row Try.results39 _ _ (g1 + 1) _ _ _ _ rfl (setRow_heap _ _ _ _ _ _ P1.out) Try.underlying23 rfl infoVV
        · exact (P0.out.mono (Nat.le_of_eq hg)).trans ⟨rfl, rfl, rfl, by simp, fun j hj => setRow_other _ _ _ _ (by omega)⟩
      · replace HA2 := Lib.hid (HA2.out hc)
        clear q1
        go_wp2_with fail
        go_region
        go_wp2
        go_roundw
        case rel => exact ⟨j + 1, by omega, by go_num, HA2.out, P0.out.drew, P1.out, P2.out, P3.out⟩
        case measure => simp [intOf]; omega
    · have e : j = n := by omega
      subst e
      have E : Hid (cutB j M s = true) := Lib.hid (cutB_iff.2 fun r hr => HA.out r (by omega))
      clear hlt HA q3
      go_wp2_with fail
      refine Calls.mono (rstable_any p g j M _ hn P2.out) ?_
      rintro e w5 ⟨rfl, hb'⟩
      have hlt1 : g1 + 1 < wr.heap.size := VBox.lt q1
      replace P0 := Lib.hid (P0.out.trans (hb'.mono (by omega)))
      replace q1 := gblk hb' q1
      clear hb' hlt1 q2
      go_wp2
      refine bodyPost_ret (v := .agg (vv (stabF j M))) ?_ rfl ⟨by rw [hF.out, E.out]; rfl, ?_⟩
      · exact results_cell_row Try.results39 _ _ (g1 + 1) _ _ _ _ rfl (setRow_heap _ _ _ _ _ _ q1) Try.underlying23 rfl infoVV
      · exact (P0.out.mono (Nat.le_of_eq hg)).trans ⟨rfl, rfl, rfl, by simp, fun j hj => setRow_other _ _ _ _ (by omega)⟩

end Go.Proofs.Ythjeginhoddmiaa
