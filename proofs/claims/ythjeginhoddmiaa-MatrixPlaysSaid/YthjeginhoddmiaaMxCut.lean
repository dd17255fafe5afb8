/- The contract of Cut. No conditions but the number of replicas. -/
import Derived.Test.YthjeginhoddmiaaMxStable
namespace Go.Proofs.Ythjeginhoddmiaa
open Go.RowKit
attribute [local go_sem] bmax2_int bmin2_int bmax_two bmin_two blk_alloc blk_setRow blk_setCell blk_drew blk_drewN alloc_setRow cell_setRow_ne drew_setRow drewN_setRow fold_z0 vv_size vv_get vv_set
attribute [local go_sem ↓] exec_load_vv exec_store_vv exec_index_vv exec_eql_vv exec_neq_vv
attribute [local go_sem] loadVV_at storeVV_at indexVV_at eqVV_eql eqVV_neq ne_r2 ne_l2 ne_r3 ne_l3 ne_r4 ne_l4 ne_r5 ne_l5 ne_r6 ne_l6 ne_r7 ne_l7 ne_r8 ne_l8
set_option linter.unusedVariables false
set_option linter.unusedSimpArgs false
attribute [local go_sem] mxA_size rowM_mx putM_mx loadVV_mx storeVV_mx buildMX_int
attribute [local go_sem ↓] exec_build_mx exec_build_mx0

def cutB (n : Int) (M : Nat → Nat → Int) (s : Nat → Int) : Bool := (List.range n.toNat).all fun r => decide (M r r ≤ s r)
def cutF (n : Int) (M : Nat → Nat → Int) (s : Nat → Int) : Nat → Int := if cutB n M s then stabF n M else z0
theorem cutB_iff {n : Int} {M : Nat → Nat → Int} {s : Nat → Int} : cutB n M s = true ↔ ∀ r : Nat, (r : Int) < n → M r r ≤ s r := by
  unfold cutB
  rw [List.all_eq_true]
  constructor
  · intro h r hr
    exact of_decide_eq_true (h r (List.mem_range.2 (by omega)))
  · intro h r hr
    have := List.mem_range.1 hr
    exact decide_eq_true (h r (by omega))
theorem cutB_not {n : Int} {M : Nat → Nat → Int} {s : Nat → Int} {r : Nat} (hr : (r : Int) < n) (h : s r < M r r) : cutB n M s = false := by
  cases e : cutB n M s with
  | false => rfl
  | true => exact absurd (cutB_iff.1 e r hr) (by omega)

theorem mcut_none (s : Nat → Int) (w : World) :
    Calls Try.prog 38 #[.pointer none, .agg (vv s)] w fun e w' => e = .returned (.agg (vv z0)) ∧ Below w.heap.size w w' := by
  go_enter Try.func38, Try.ntmps38
  go_wp2_with fail
  have k0 := ((Below.refl w.heap.size w).alloc (Nat.le_refl _) (Obj.cells (vv s) 23)).alloc (by simp) (Obj.cells (vv z0) 23)
  have k1 := gblk_new (w.alloc (Obj.cells (vv s) 23)) (Obj.cells (vv z0) 23)
  rw [show (w.alloc (Obj.cells (vv s) 23)).heap.size = w.heap.size + 1 by simp] at k1
  generalize (w.alloc (Obj.cells (vv s) 23)).alloc (Obj.cells (vv z0) 23) = w1 at *
  generalize hg : w.heap.size = g at *
  refine wp_loop_rounds 1 ?_
  rw [rounds_succ]
  go_wp2_with fail
  refine Calls.mono (mhas_none _ _) ?_
  rintro e w2 ⟨rfl, hb'⟩
  replace k0 := k0.trans (hb'.mono (by have := k0.size; omega))
  replace k1 := gblk hb' k1
  clear hb'
  go_wp2_with fail
  refine Calls.mono (mstable_none _) ?_
  rintro e w3 ⟨rfl, hb'⟩
  replace k0 := k0.trans (hb'.mono (by have := k0.size; omega))
  replace k1 := gblk hb' k1
  clear hb'
  go_wp2
  refine bodyPost_ret (v := .agg (vv z0)) ?_ rfl ⟨rfl, ?_⟩
  · exact results_cell_row Try.results38 _ _ (g + 1) _ _ _ _ rfl (setRow_heap _ _ _ _ _ _ k1) Try.underlying23 rfl infoVV
  · exact (k0.mono (Nat.le_of_eq hg)).trans ⟨rfl, rfl, rfl, by simp, fun j hj => setRow_other _ _ _ _ (by omega)⟩

set_option maxHeartbeats 1000000 in
theorem mcut_any (g : Nat) (n : Int) (M : Nat → Nat → Int) (s : Nat → Int) (w : World) (hn : 0 ≤ n ∧ n ≤ 16) (h : MX w g n M) :
    Calls Try.prog 38 #[.pointer (some ⟨g, 0, none⟩), .agg (vv s)] w fun e w' => e = .returned (.agg (vv (cutF n M s))) ∧ Below w.heap.size w w' := by
  have hF : Hid (cutF n M s = if cutB n M s then stabF n M else z0) := Lib.hid rfl
  go_enter Try.func38, Try.ntmps38
  go_wp2_with fail
  have k0 := ((Below.refl w.heap.size w).alloc (Nat.le_refl _) (Obj.cells (vv s) 23)).alloc (by simp) (Obj.cells (vv z0) 23)
  have k1 := gblk_new (w.alloc (Obj.cells (vv s) 23)) (Obj.cells (vv z0) 23)
  rw [show (w.alloc (Obj.cells (vv s) 23)).heap.size = w.heap.size + 1 by simp] at k1
  have k2 := gblk_alloc (Obj.cells (vv z0) 23) (gblk_alloc (Obj.cells (vv s) 23) h)
  have k3 := gblk_alloc (Obj.cells (vv z0) 23) (gblk_new w (Obj.cells (vv s) 23))
  clear h
  generalize (w.alloc (Obj.cells (vv s) 23)).alloc (Obj.cells (vv z0) 23) = w1 at *
  generalize hg : w.heap.size = g1 at *
  have K0 := Lib.hid k0
  have K1 := Lib.hid k1
  have K2 := Lib.hid k2
  have K3 := Lib.hid k3
  clear k0 k1 k2 k3
  go_loopw [5] (fun i wr => ∃ j : Nat, (j : Int) ≤ n ∧ i = .int .i64 j ∧ (∀ r : Nat, r < j → M r r ≤ s r) ∧ Below g1 w wr ∧ blk wr (g1 + 1) = some (.cells (vv z0) 23) ∧ blk wr g = some (.cells (mxA n M) 64) ∧ blk wr g1 = some (.cells (vv s) 23)) (fun i _ => 16 - (intOf i).toNat)
  case atStart => exact ⟨0, by omega, rfl, fun r hr => absurd hr (by omega), K0.out, K1.out, K2.out, K3.out⟩
  case round =>
    obtain ⟨j, hjn, rfl, hall, k0, k1, k2, k3⟩ := hrel
    go_wp2_with fail
    refine Calls.mono (mhas_any g n j M _ k2) ?_
    rintro e w4 ⟨rfl, hb'⟩
    have hlt1 : g1 < wr.heap.size := VBox.lt k3
    replace k0 := k0.trans (hb'.mono (by omega))
    replace k1 := gblk hb' k1
    replace k2 := gblk hb' k2
    replace k3 := gblk hb' k3
    clear hb' hlt1
    by_cases hlt : (j : Int) < n
    · have hh : hasI n j = true := decide_eq_true ⟨by omega, hlt⟩
      rw [hh]
      have hk : j < 16 := by omega
      have hk2 : (j : Int) < 16 := by omega
      have c1 : w4.cell? ⟨g, 1 + j * 16 + j, none⟩ = some (.int .i64 (M j j)) := (cell_of_row w4 g _ _ _ _ k2).trans (mxA_getM n M hk hk)
      have c2 : w4.cell? ⟨g1, j, none⟩ = some (.int .i64 (s j)) := (cell_of_row w4 g1 _ _ _ _ k3).trans (vv_get s hk)
      have HA := Lib.hid hall
      have P0 := Lib.hid k0
      have P1 := Lib.hid k1
      have P2 := Lib.hid k2
      have P3 := Lib.hid k3
      clear k0 k2 k3 hall
      by_cases hc : s j < M j j
      · have E := Lib.hid (cutB_not hlt hc)
        generalize M j j = x at *
        generalize s j = y at *
        go_wp2_with fail
        go_region
        all_goals go_wp2
        all_goals refine bodyPost_ret (v := .agg (vv z0)) ?_ rfl ⟨by rw [hF.out, E.out]; rfl, ?_⟩
        · exact results_cell_row Try.results38 _ _ (g1 + 1) _ _ _ _ rfl (setRow_heap _ _ _ _ _ _ P1.out) Try.underlying23 rfl infoVV
        · exact (P0.out.mono (Nat.le_of_eq hg)).trans ⟨rfl, rfl, rfl, by simp, fun j hj => setRow_other _ _ _ _ (by omega)⟩
      · have HA2 : Hid (∀ r : Nat, r < j + 1 → M r r ≤ s r) := Lib.hid fun r hr => by
          by_cases e : r = j
          · subst e; omega
          · exact HA.out r (by omega)
        clear P1
        have P1 := Lib.hid k1
        clear k1 HA
        generalize M j j = x at *
        generalize s j = y at *
        go_wp2_with fail
        go_region
        go_wp2
        go_roundw
        case rel => exact ⟨j + 1, by omega, by go_num, HA2.out, P0.out.drew, P1.out, P2.out, P3.out⟩
        case measure => simp [intOf]; omega
    · have hh : hasI n j = false := decide_eq_false (by omega)
      rw [hh]
      have E : Hid (cutB n M s = true) := Lib.hid (cutB_iff.2 fun r hr => hall r (by omega))
      clear hh hlt hall k3
      go_wp2_with fail
      refine Calls.mono (mstable_any g n M _ hn k2) ?_
      rintro e w5 ⟨rfl, hb'⟩
      have hlt1 : g1 + 1 < w4.heap.size := VBox.lt k1
      replace k0 := k0.trans (hb'.mono (by omega))
      replace k1 := gblk hb' k1
      clear hb' hlt1 k2
      go_wp2
      refine bodyPost_ret (v := .agg (vv (stabF n M))) ?_ rfl ⟨by rw [hF.out, E.out]; rfl, ?_⟩
      · exact results_cell_row Try.results38 _ _ (g1 + 1) _ _ _ _ rfl (setRow_heap _ _ _ _ _ _ k1) Try.underlying23 rfl infoVV
      · exact (k0.mono (Nat.le_of_eq hg)).trans ⟨rfl, rfl, rfl, by simp, fun j hj => setRow_other _ _ _ _ (by omega)⟩

end Go.Proofs.Ythjeginhoddmiaa
