/- The contract of the law's own helper whole. No conditions but the number of replicas. -/
import Derived.Test.YthjeginhoddmiaaMxCut
namespace Go.Proofs.Ythjeginhoddmiaa
open Go.RowKit
attribute [local go_sem] bmax2_int bmin2_int bmax_two bmin_two blk_alloc blk_setRow blk_setCell blk_drew blk_drewN alloc_setRow cell_setRow_ne drew_setRow drewN_setRow fold_z0 vv_size vv_get vv_set
attribute [local go_sem ↓] exec_load_vv exec_store_vv exec_index_vv exec_eql_vv exec_neq_vv
attribute [local go_sem] loadVV_at storeVV_at indexVV_at eqVV_eql eqVV_neq ne_r2 ne_l2 ne_r3 ne_l3 ne_r4 ne_l4 ne_r5 ne_l5 ne_r6 ne_l6 ne_r7 ne_l7 ne_r8 ne_l8
set_option linter.unusedVariables false
set_option linter.unusedSimpArgs false
attribute [local go_sem] mxA_size rowM_mx putM_mx loadVV_mx storeVV_mx buildMX_int
attribute [local go_sem ↓] exec_build_mx exec_build_mx0

set_option maxHeartbeats 1000000 in
theorem whole_any (g : Nat) (n : Int) (M : Nat → Nat → Int) (s : Nat → Int) (w : World) (hn : 0 ≤ n ∧ n ≤ 16) (h : MX w g n M) :
    Calls Try.prog 41 #[.pointer (some ⟨g, 0, none⟩), .int .i64 n, .agg (vv s)] w fun e w' => e = .returned (.bool (cutB n M s)) ∧ Below w.heap.size w w' := by
  go_enter Try.func41, Try.ntmps41
  go_wp2_with fail
  have k0 := (Below.refl w.heap.size w).alloc (Nat.le_refl _) (Obj.cells (vv s) 23)
  have k2 := gblk_alloc (Obj.cells (vv s) 23) h
  have k3 := gblk_new w (Obj.cells (vv s) 23)
  clear h
  generalize w.alloc (Obj.cells (vv s) 23) = w1 at *
  generalize hg : w.heap.size = g1 at *
  have K0 := Lib.hid k0
  have K2 := Lib.hid k2
  have K3 := Lib.hid k3
  clear k0 k2 k3
  go_loopw [7] (fun i wr => ∃ j : Nat, (j : Int) ≤ n ∧ i = .int .i64 j ∧ (∀ r : Nat, r < j → M r r ≤ s r) ∧ Below g1 w wr ∧ MX wr g n M ∧ blk wr g1 = some (.cells (vv s) 23)) (fun i _ => 16 - (intOf i).toNat)
  case atStart => exact ⟨0, by omega, rfl, fun r hr => absurd hr (by omega), K0.out, K2.out, K3.out⟩
  case round =>
    obtain ⟨j, hjn, rfl, hall, k0, k2, k3⟩ := hrel
    have HA := Lib.hid hall
    have P0 := Lib.hid k0
    clear k0 hall
    by_cases hlt : (j : Int) < n
    · have hjk : j < 16 := by omega
      have hji : (j : Int) < 16 := by omega
      have c2 : wr.cell? ⟨g1, j, none⟩ = some (.int .i64 (s j)) := (cell_of_row wr g1 j _ _ _ k3).trans (vv_get _ hjk)
      have hrow : rowF n M j = M j := by
        unfold rowF hasI
        rw [decide_eq_true ⟨by omega, hlt⟩]
        rfl
      have E := Lib.hid (fun hc : s j < M j j => cutB_not hlt hc)
      have HA2 : Hid (¬ s j < M j j → ∀ r : Nat, r < j + 1 → M r r ≤ s r) := Lib.hid fun hc r hr => by
        by_cases e : r = j
        · subst e; omega
        · exact HA.out r (by omega)
      generalize hx : M j j = x at *
      generalize s j = y at *
      go_wp2_with fail
      refine wp_region_held_drew (S := fun w' => (Below g1 w w' ∧ g1 ≤ w'.heap.size) ∧ MX w' g n M ∧ blk w' g1 = some (.cells (vv s) 23) ∧ w'.cell? ⟨g1, j, none⟩ = some (.int .i64 y)) (by kernel_rfl) ⟨⟨P0.out.drew, Nat.le_of_lt (VBox.lt k3)⟩, k2, k3, c2⟩ (fun hHeld => ?_)
      refine wpAnyH_take (i := 0) (v := ?_) rfl (by kernel_rfl) (by kernel_rfl) (by kernel_rfl) (fun _ _ _ h => h) (Or.inl ⟨by rfl, ?_⟩) hHeld ?_
      rotate_left
      · intro w hSw; (try dsimp only at hSw); (try simp only [List.getElem_toArray, List.getElem_cons_succ, List.getElem_cons_zero]); (go_simp; try with_reducible rfl)
      try simp only [List.getElem_toArray, List.getElem_cons_succ, List.getElem_cons_zero, Act.put, List.setIfInBounds_toArray, List.set_cons_zero, List.set_cons_succ]
      refine wpAnyH_take (i := 1) (v := ?_) rfl (by kernel_rfl) (by kernel_rfl) (by kernel_rfl) (fun _ _ _ h => h) (Or.inl ⟨by rfl, ?_⟩) hHeld ?_
      rotate_left
      · intro w hSw; (try dsimp only at hSw); (try simp only [List.getElem_toArray, List.getElem_cons_succ, List.getElem_cons_zero]); (go_simp; try with_reducible rfl)
      try simp only [List.getElem_toArray, List.getElem_cons_succ, List.getElem_cons_zero, Act.put, List.setIfInBounds_toArray, List.set_cons_zero, List.set_cons_succ]
      refine wpAnyH_take (i := 3) (v := ?_) rfl (by kernel_rfl) (by kernel_rfl) (by kernel_rfl) (fun _ _ _ h => h) (Or.inl ⟨by rfl, ?_⟩) hHeld ?_
      rotate_left
      · intro w hSw; (try dsimp only at hSw); (try simp only [List.getElem_toArray, List.getElem_cons_succ, List.getElem_cons_zero]); (go_simp; try with_reducible rfl)
      try simp only [List.getElem_toArray, List.getElem_cons_succ, List.getElem_cons_zero, Act.put, List.setIfInBounds_toArray, List.set_cons_zero, List.set_cons_succ]
      refine wpAnyH_take (i := 5) (v := ?_) rfl (by kernel_rfl) (by kernel_rfl) (by kernel_rfl) (fun _ _ _ h => h) (Or.inl ⟨by rfl, ?_⟩) hHeld ?_
      rotate_left
      · intro w hSw; (try dsimp only at hSw); (try simp only [List.getElem_toArray, List.getElem_cons_succ, List.getElem_cons_zero]); (go_simp; try with_reducible rfl)
      try simp only [List.getElem_toArray, List.getElem_cons_succ, List.getElem_cons_zero, Act.put, List.setIfInBounds_toArray, List.set_cons_zero, List.set_cons_succ]
      refine wpAnyH_take (i := 6) (v := ?_) rfl (by kernel_rfl) (by kernel_rfl) (by kernel_rfl) (fun _ _ _ h => h) (Or.inl ⟨by rfl, ?_⟩) hHeld ?_
      rotate_left
      · intro w hSw; (try dsimp only at hSw); (try simp only [List.getElem_toArray, List.getElem_cons_succ, List.getElem_cons_zero]); (go_simp; try with_reducible rfl)
      try simp only [List.getElem_toArray, List.getElem_cons_succ, List.getElem_cons_zero, Act.put, List.setIfInBounds_toArray, List.set_cons_zero, List.set_cons_succ]
      refine wpAnyH_take (i := 7) (v := ?_) rfl (by kernel_rfl) (by kernel_rfl) (by kernel_rfl) (fun _ _ _ h => h) (Or.inl ⟨by rfl, ?_⟩) hHeld ?_
      rotate_left
      · intro w hSw; (try dsimp only at hSw); (try simp only [List.getElem_toArray, List.getElem_cons_succ, List.getElem_cons_zero]); (go_simp; try with_reducible rfl)
      try simp only [List.getElem_toArray, List.getElem_cons_succ, List.getElem_cons_zero, Act.put, List.setIfInBounds_toArray, List.set_cons_zero, List.set_cons_succ]
      refine wpAnyH_ready (rs := [2]) (by kernel_rfl) (by simp) ?_
      refine AllReadyH.cons rfl (fun K hK => ?_) AllReadyH.nil
      go_simp
      (refine Calls.mono (mrow_any g n j M _ hn.2 hHeld.2.1) ?_; rintro e w' ⟨rfl, hb'⟩; rw [hrow])
      refine hK.out _ _ ⟨⟨hHeld.1.1.trans (hb'.mono hHeld.1.2), Nat.le_trans hHeld.1.2 hb'.size⟩, gblk hb' hHeld.2.1, gblk hb' hHeld.2.2.1, gcell hb' hHeld.2.2.2⟩ (fun hNew => ?_)
      clear hK K hHeld hb'
      have hHeld := hNew
      clear hNew
      try simp only [List.getElem_toArray, List.getElem_cons_succ, List.getElem_cons_zero, Act.put, List.setIfInBounds_toArray, List.set_cons_zero, List.set_cons_succ]
      refine wpAnyH_take (i := 4) (v := ?_) rfl (by kernel_rfl) (by kernel_rfl) (by kernel_rfl) (fun _ _ _ h => h) (Or.inl ⟨by rfl, ?_⟩) hHeld ?_
      rotate_left
      · intro w hSw; (try dsimp only at hSw); (try simp only [List.getElem_toArray, List.getElem_cons_succ, List.getElem_cons_zero]); (go_simp; try with_reducible rfl)
      try simp only [List.getElem_toArray, List.getElem_cons_succ, List.getElem_cons_zero, Act.put, List.setIfInBounds_toArray, List.set_cons_zero, List.set_cons_succ]
      refine wpAnyH_take (i := 8) (v := ?_) rfl (by kernel_rfl) (by kernel_rfl) (by kernel_rfl) (fun _ _ _ h => h) (Or.inl ⟨by rfl, ?_⟩) hHeld ?_
      rotate_left
      · intro w hSw; (try dsimp only at hSw); (try simp only [List.getElem_toArray, List.getElem_cons_succ, List.getElem_cons_zero]); (go_simp; try with_reducible rfl)
      try simp only [List.getElem_toArray, List.getElem_cons_succ, List.getElem_cons_zero, Act.put, List.setIfInBounds_toArray, List.set_cons_zero, List.set_cons_succ]
      refine wpAnyH_done (by kernel_rfl) ?_ _
      have Q := Lib.hid hHeld
      clear hHeld P0 k2 k3 c2 hrow
      by_cases hc : y < x
      · go_wp2
        go_ret
        exact ⟨by rw [E.out hc]; rfl, Q.out.1.1.mono (Nat.le_of_eq hg)⟩
      · replace HA2 := Lib.hid (HA2.out (by omega))
        go_wp2
        go_roundw
        case rel => exact ⟨j + 1, by omega, by go_num, HA2.out, Q.out.1.1, Q.out.2.1, Q.out.2.2.1⟩
        case measure => simp [intOf]; omega
    · have E : Hid (cutB n M s = true) := Lib.hid (cutB_iff.2 fun r hr => HA.out r (by omega))
      clear k2 k3
      go_wp2
      go_ret
      first
        | exact ⟨by rw [E.out]; rfl, P0.out⟩
        | exact ⟨by rw [E.out]; rfl, P0.out.mono (Nat.le_of_eq hg)⟩

end Go.Proofs.Ythjeginhoddmiaa
