/- The contract of the reference's Stable. No conditions. -/
import Derived.Test.YthjeginhoddmiaaRxSee
import Derived.Test.YthjeginhoddmiaaRefMeet
import Derived.Test.YthjeginhoddmiaaMxPlain
namespace Go.Proofs.Ythjeginhoddmiaa
open Go.RowKit
attribute [local go_sem] bmax2_int bmin2_int bmax_two bmin_two blk_alloc blk_setRow blk_setCell blk_drew blk_drewN alloc_setRow cell_setRow_ne drew_setRow drewN_setRow fold_z0 vv_size vv_get vv_set
attribute [local go_sem ↓] exec_load_vv exec_store_vv exec_index_vv exec_eql_vv exec_neq_vv
attribute [local go_sem] storeVV_at indexVV_at eqVV_eql eqVV_neq ne_r2 ne_l2 ne_r3 ne_l3 ne_r4 ne_l4 ne_r5 ne_l5 ne_r6 ne_l6 ne_r7 ne_l7 ne_r8 ne_l8
set_option linter.unusedVariables false
set_option linter.unusedSimpArgs false
attribute [local go_sem] loadVV_rx loadVV_r0 storeVV_rx rowR_rx rowR_rx0 rowR_vv putR_rx rxA_size makeVVs_int
attribute [local go_sem ↓] exec_make_vvs

/-- what is least of the first k rows, the first one taken twice. -/
def rstF (M : Nat → Nat → Int) : Nat → Nat → Int
  | 0 => M 0
  | k + 1 => meetF (rstF M k) (M k)
theorem rstF_eq {n : Int} {M : Nat → Nat → Int} (hn : 1 ≤ n) : ∀ k, rstF M (k + 1) = stF n M k
  | 0 => by
    show meetF (M 0) (M 0) = rowF n M 0
    have e := rowF_in (n := n) (M := M) (r := 0) (by omega)
    rw [show ((0 : Nat) : Int) = 0 from rfl] at e
    rw [e]
    funext i
    unfold meetF mn
    split <;> rfl
  | k + 1 => by
    show meetF (rstF M (k + 1)) (M (k + 1)) = meetF (stF n M k) (M (k + 1))
    rw [rstF_eq hn k]
theorem rstF_stab {n : Nat} {M : Nat → Nat → Int} (hn : 1 ≤ n) : rstF M n = stabF n M := by
  obtain ⟨k, rfl⟩ : ∃ k, n = k + 1 := ⟨n - 1, by omega⟩
  rw [rstF_eq (n := ((k + 1 : Nat) : Int)) (by omega) k]
  unfold stabF
  congr 1

set_option maxHeartbeats 1000000 in
theorem rstable_any (p g n : Nat) (M : Nat → Nat → Int) (w : World) (hn : 0 < n ∧ n ≤ 16) (h : RX w p g n M) :
    Calls Try.prog 37 #[.pointer (some ⟨p, 0, none⟩)] w fun e w' => e = .returned (.agg (vv (stabF n M))) ∧ Below w.heap.size w w' := by
  have hpg := h.ne hn.1
  have hpl : p < w.heap.size := (Array.getElem?_eq_some_iff.1 (show w.heap[p]? = _ from h.1)).1
  have hgl : g < w.heap.size := (Array.getElem?_eq_some_iff.1 (show w.heap[g]? = _ from h.2)).1
  have hn0 : 0 < n := hn.1
  go_enter Try.func37, Try.ntmps37
  have c0 := h.cell
  have d0 := h.2
  have hs0 : 16 ≤ n * 16 := by omega
  have hpb : p ≠ w.heap.size := by omega
  have hgb : g ≠ w.heap.size := by omega
  have hpb1 : p ≠ w.heap.size + 1 := by omega
  go_wp2_with fail
  have k0 := Lib.hid (((Below.refl w.heap.size w).alloc (Nat.le_refl _) (Obj.cells (vv z0) 23)).alloc (by simp) (Obj.cells (vv (M 0)) 23))
  have k1 := Lib.hid (gblk_alloc (Obj.cells (vv (M 0)) 23) (gblk_new w (Obj.cells (vv z0) 23)))
  have k3 := gblk_new (w.alloc (Obj.cells (vv z0) 23)) (Obj.cells (vv (M 0)) 23)
  rw [show (w.alloc (Obj.cells (vv z0) 23)).heap.size = w.heap.size + 1 by simp] at k3
  have K3 : Hid (blk ((w.alloc (Obj.cells (vv z0) 23)).alloc (Obj.cells (vv (M 0)) 23)) (w.heap.size + 1) = some (.cells (vv (rstF M 0)) 23)) := Lib.hid k3
  have k2 := Lib.hid ((h.alloc (Obj.cells (vv z0) 23)).alloc (Obj.cells (vv (M 0)) 23))
  clear h c0 d0 k3
  generalize (w.alloc (Obj.cells (vv z0) 23)).alloc (Obj.cells (vv (M 0)) 23) = w1 at *
  generalize hg : w.heap.size = g1 at *
  have E := Lib.hid (rstF_stab (n := n) (M := M) hn0)
  go_loopw [16] (fun i wr => ∃ j : Nat, j ≤ n ∧ i = .int .i64 j ∧ Below g1 w wr ∧ blk wr g1 = some (.cells (vv z0) 23) ∧ RX wr p g n M ∧ blk wr (g1 + 1) = some (.cells (vv (rstF M j)) 23)) (fun i _ => 16 - (intOf i).toNat)
  case atStart => exact ⟨0, by omega, rfl, k0.out, k1.out, k2.out, K3.out⟩
  case round =>
    obtain ⟨j, hjn, rfl, q0, q1, q2, q3⟩ := hrel
    have P0 := Lib.hid q0
    by_cases hlt : j < n
    · have hlt2 : (j : Int) < n := by omega
      have hj3 : j * 16 + 16 ≤ n * 16 := by omega
      have F : Hid (meetF (rstF M j) (M j) = rstF M (j + 1)) := Lib.hid rfl
      generalize rstF M j = a at *
      go_wp2_with fail
      refine wp_region_heldK (s := 9) (S := fun w' => Below g1 w w' ∧ blk w' g1 = some (.cells (vv z0) 23) ∧ RX w' p g n M ∧ w'.cell? ⟨p, 0, none⟩ = some (.slice (some ⟨g, 0, none⟩) n n) ∧ blk w' g = some (.cells (rxA n M) 23) ∧ blk w' (g1 + 1) = some (.cells (vv a) 23)) (by kernel_rfl) ⟨P0.out.drew, q1, q2, q2.cell, q2.2, q3⟩ (fun hHeld => ?_)
      refine wpAnyK_take (i := 0) (v := ?_) rfl (by kernel_rfl) (by kernel_rfl) (by kernel_rfl) (by kernel_rfl) (by kernel_rfl) (fun _ _ _ h => h) (Or.inl ⟨by rfl, ?_⟩) hHeld ?_
      rotate_left
      · intro w hSw; (try dsimp only at hSw); (try simp only [List.getElem_toArray, List.getElem_cons_succ, List.getElem_cons_zero]); (go_simp; try with_reducible rfl)
      try simp only [List.getElem_toArray, List.getElem_cons_succ, List.getElem_cons_zero, Act.put, List.setIfInBounds_toArray, List.set_cons_zero, List.set_cons_succ]
      refine wpAnyK_take (i := 1) (v := ?_) rfl (by kernel_rfl) (by kernel_rfl) (by kernel_rfl) (by kernel_rfl) (by kernel_rfl) (fun _ _ _ h => h) (Or.inl ⟨by rfl, ?_⟩) hHeld ?_
      rotate_left
      · intro w hSw; (try dsimp only at hSw); (try simp only [List.getElem_toArray, List.getElem_cons_succ, List.getElem_cons_zero]); (go_simp; try with_reducible rfl)
      try simp only [List.getElem_toArray, List.getElem_cons_succ, List.getElem_cons_zero, Act.put, List.setIfInBounds_toArray, List.set_cons_zero, List.set_cons_succ]
      refine wpAnyK_take (i := 2) (v := ?_) rfl (by kernel_rfl) (by kernel_rfl) (by kernel_rfl) (by kernel_rfl) (by kernel_rfl) (fun _ _ _ h => h) (Or.inl ⟨by rfl, ?_⟩) hHeld ?_
      rotate_left
      · intro w hSw; (try dsimp only at hSw); (try simp only [List.getElem_toArray, List.getElem_cons_succ, List.getElem_cons_zero]); (go_simp; try with_reducible rfl)
      try simp only [List.getElem_toArray, List.getElem_cons_succ, List.getElem_cons_zero, Act.put, List.setIfInBounds_toArray, List.set_cons_zero, List.set_cons_succ]
      refine wpAnyK_take (i := 3) (v := ?_) rfl (by kernel_rfl) (by kernel_rfl) (by kernel_rfl) (by kernel_rfl) (by kernel_rfl) (fun _ _ _ h => h) (Or.inl ⟨by rfl, ?_⟩) hHeld ?_
      rotate_left
      · intro w hSw; (try dsimp only at hSw); (try simp only [List.getElem_toArray, List.getElem_cons_succ, List.getElem_cons_zero]); (go_simp; try with_reducible rfl)
      try simp only [List.getElem_toArray, List.getElem_cons_succ, List.getElem_cons_zero, Act.put, List.setIfInBounds_toArray, List.set_cons_zero, List.set_cons_succ]
      refine wpAnyK_take (i := 4) (v := ?_) rfl (by kernel_rfl) (by kernel_rfl) (by kernel_rfl) (by kernel_rfl) (by kernel_rfl) (fun _ _ _ h => h) (Or.inl ⟨by rfl, ?_⟩) hHeld ?_
      rotate_left
      · intro w hSw; (try dsimp only at hSw); (try simp only [List.getElem_toArray, List.getElem_cons_succ, List.getElem_cons_zero]); (go_simp; try with_reducible rfl)
      try simp only [List.getElem_toArray, List.getElem_cons_succ, List.getElem_cons_zero, Act.put, List.setIfInBounds_toArray, List.set_cons_zero, List.set_cons_succ]
      refine wpAnyK_take (i := 5) (v := ?_) rfl (by kernel_rfl) (by kernel_rfl) (by kernel_rfl) (by kernel_rfl) (by kernel_rfl) (fun _ _ _ h => h) (Or.inl ⟨by rfl, ?_⟩) hHeld ?_
      rotate_left
      · intro w hSw; (try dsimp only at hSw); (try simp only [List.getElem_toArray, List.getElem_cons_succ, List.getElem_cons_zero]); (go_simp; try with_reducible rfl)
      try simp only [List.getElem_toArray, List.getElem_cons_succ, List.getElem_cons_zero, Act.put, List.setIfInBounds_toArray, List.set_cons_zero, List.set_cons_succ]
      refine wpAnyK_take (i := 6) (v := ?_) rfl (by kernel_rfl) (by kernel_rfl) (by kernel_rfl) (by kernel_rfl) (by kernel_rfl) (fun _ _ _ h => h) (Or.inl ⟨by rfl, ?_⟩) hHeld ?_
      rotate_left
      · intro w hSw; (try dsimp only at hSw); (try simp only [List.getElem_toArray, List.getElem_cons_succ, List.getElem_cons_zero]); (go_simp; try with_reducible rfl)
      try simp only [List.getElem_toArray, List.getElem_cons_succ, List.getElem_cons_zero, Act.put, List.setIfInBounds_toArray, List.set_cons_zero, List.set_cons_succ]
      refine wpAnyK_take (i := 7) (v := ?_) rfl (by kernel_rfl) (by kernel_rfl) (by kernel_rfl) (by kernel_rfl) (by kernel_rfl) (fun _ _ _ h => h) (Or.inl ⟨by rfl, ?_⟩) hHeld ?_
      rotate_left
      · intro w hSw; (try dsimp only at hSw); (try simp only [List.getElem_toArray, List.getElem_cons_succ, List.getElem_cons_zero]); (go_simp; try with_reducible rfl)
      try simp only [List.getElem_toArray, List.getElem_cons_succ, List.getElem_cons_zero, Act.put, List.setIfInBounds_toArray, List.set_cons_zero, List.set_cons_succ]
      refine wpAnyK_one (i := 8) (by kernel_rfl) rfl (fun K hK => ?_)
      (try simp only [List.getElem_toArray, List.getElem_cons_succ, List.getElem_cons_zero])
      go_simp
      (refine Calls.mono (rmeet_any _ _ _) ?_; rintro x w6 ⟨rfl, hb'⟩)
      have hNew := (show _ ∧ _ ∧ RX w6 p g n M ∧ _ ∧ _ ∧ _ from ⟨hHeld.1.trans (hb'.mono (Nat.le_of_lt (VBox.lt hHeld.2.1))), gblk hb' hHeld.2.1, hHeld.2.2.1.keep hb', gcell hb' hHeld.2.2.2.1, gblk hb' hHeld.2.2.2.2.1, gblk hb' hHeld.2.2.2.2.2⟩)
      refine hK.out _ _ (Or.inr hNew) ?_
      clear hK K hHeld hb'
      have hHeld := hNew
      clear hNew
      try simp only [List.getElem_toArray, List.getElem_cons_succ, List.getElem_cons_zero, Act.put, List.setIfInBounds_toArray, List.set_cons_zero, List.set_cons_succ]
      obtain ⟨p0, p1, p2, p3, p4, p5⟩ := id hHeld
      refine wpAnyK_one (i := 9) (by kernel_rfl) rfl (fun K hK => ?_)
      (try simp only [List.getElem_toArray, List.getElem_cons_succ, List.getElem_cons_zero])
      go_simp
      refine hK.out _ _ (Or.inl (by kernel_rfl)) ?_
      clear hK K
      try simp only [List.getElem_toArray, List.getElem_cons_succ, List.getElem_cons_zero, Act.put, List.setIfInBounds_toArray, List.set_cons_zero, List.set_cons_succ]
      refine wpAnyK_done (by kernel_rfl) ?_ _
      rw [F.out]
      have P0 := Lib.hid (p0.trans (c := w6.setRow (g1 + 1) (vv (rstF M (j + 1)))) ⟨rfl, rfl, rfl, by simp, fun i hi => setRow_other _ _ _ _ (by omega)⟩)
      have P1 := Lib.hid (grown_blk (setRow_grown w6 (g1 + 1) (vv (rstF M (j + 1)))) (by omega) p1)
      have P2 : Hid (RX (w6.setRow (g1 + 1) (vv (rstF M (j + 1)))) p g n M) := Lib.hid (p2.grown (setRow_grown w6 (g1 + 1) _) (by omega) (by omega))
      have P3 := Lib.hid (show blk (w6.setRow (g1 + 1) (vv (rstF M (j + 1)))) (g1 + 1) = some (.cells (vv (rstF M (j + 1))) 23) by rw [blk_setRow, if_pos rfl, p5])
      clear p0 p1 p2 p3 p4 p5 hHeld q0 q1 q2 q3
      go_wp2
      go_roundw
      case rel => exact ⟨j + 1, by omega, by go_num, P0.out, P1.out, P2.out, P3.out⟩
      case measure => simp [intOf]; omega
    · have e : j = n := by omega
      subst e
      rw [E.out] at q3
      have hn1 : ¬ g1 = g1 + 1 := by omega
      clear q2 q0
      go_wp2
      refine bodyPost_ret (v := .agg (vv (stabF j M))) ?_ rfl ⟨rfl, ?_⟩
      · exact results_cell_row Try.results37 _ _ g1 _ _ _ _ rfl (setRow_heap _ _ _ _ _ _ q1) Try.underlying23 rfl infoVV
      · exact (P0.out.mono (Nat.le_of_eq hg)).trans ⟨rfl, rfl, rfl, by simp, fun j hj => setRow_other _ _ _ _ (by omega)⟩

end Go.Proofs.Ythjeginhoddmiaa
