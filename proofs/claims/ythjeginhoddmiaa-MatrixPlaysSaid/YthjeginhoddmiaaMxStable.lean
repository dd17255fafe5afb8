/- The contract of Stable. No conditions but the number of replicas. -/
import Derived.Test.YthjeginhoddmiaaMxRow
import Derived.Test.YthjeginhoddmiaaVecMeet
import Derived.Test.YthjeginhoddmiaaHeldK
namespace Go.Proofs.Ythjeginhoddmiaa
open Go.RowKit
attribute [local go_sem] bmax2_int bmin2_int bmax_two bmin_two blk_alloc blk_setRow blk_setCell blk_drew blk_drewN alloc_setRow cell_setRow_ne drew_setRow drewN_setRow fold_z0 vv_size vv_get vv_set
attribute [local go_sem ↓] exec_load_vv exec_store_vv exec_index_vv exec_eql_vv exec_neq_vv
attribute [local go_sem] loadVV_at storeVV_at indexVV_at eqVV_eql eqVV_neq ne_r2 ne_l2 ne_r3 ne_l3 ne_r4 ne_l4 ne_r5 ne_l5 ne_r6 ne_l6 ne_r7 ne_l7 ne_r8 ne_l8
set_option linter.unusedVariables false
set_option linter.unusedSimpArgs false
attribute [local go_sem] mxA_size rowM_mx putM_mx loadVV_mx storeVV_mx buildMX_int
attribute [local go_sem ↓] exec_build_mx exec_build_mx0

/-- what is least of the first rows, number by number. -/
def stF (n : Int) (M : Nat → Nat → Int) : Nat → Nat → Int
  | 0 => rowF n M 0
  | k + 1 => meetF (stF n M k) (M (k + 1))
theorem stF_step (n : Int) (M : Nat → Nat → Int) {j : Nat} (h : 1 ≤ j) : meetF (stF n M (j - 1)) (M j) = stF n M (j + 1 - 1) := by
  obtain ⟨k, rfl⟩ : ∃ k, j = k + 1 := ⟨j - 1, by omega⟩
  rfl
/-- what all are known to have seen. -/
def stabF (n : Int) (M : Nat → Nat → Int) : Nat → Int := stF n M (n.toNat - 1)

theorem blk_ne {w : World} {g k : Nat} {a : Nat → Int} {n : Int} {M : Nat → Nat → Int} (h1 : blk w g = some (.cells (vv a) 23)) (h2 : blk w k = some (.cells (mxA n M) 64)) : g ≠ k := fun e => by
  subst e
  rw [h1] at h2
  have := congrArg (fun o : Option Obj => match o with | some (.cells cs _ _) => cs.size | _ => 0) h2
  simp [vv_size, mxA_size] at this

theorem mstable_none (w : World) :
    Calls Try.prog 34 #[.pointer none] w fun e w' => e = .returned (.agg (vv z0)) ∧ Below w.heap.size w w' := by
  go_enter Try.func34, Try.ntmps34
  go_wp2_with fail
  have k1 := gblk_new w (Obj.cells (vv z0) 23)
  have k0 := (Below.refl w.heap.size w).alloc (Nat.le_refl _) (Obj.cells (vv z0) 23)
  generalize w.alloc (Obj.cells (vv z0) 23) = w1 at *
  generalize hg : w.heap.size = g at *
  refine Calls.mono (mrow_none _ _) ?_
  rintro e w2 ⟨rfl, hb'⟩
  replace k0 := k0.trans (hb'.mono (by have := k0.size; omega))
  replace k1 := gblk hb' k1
  have q1 : g < w2.heap.size := VBox.lt k1
  clear hb'
  have qn := Nat.ne_of_lt q1
  go_wp2_with fail
  have k3 := gblk_new w2 (Obj.cells (vv z0) 23)
  replace k1 := gblk_alloc (Obj.cells (vv z0) 23) k1
  replace k0 := k0.alloc (by omega) (Obj.cells (vv z0) 23)
  clear qn
  generalize w2.alloc (Obj.cells (vv z0) 23) = w3 at *
  generalize hg3 : w2.heap.size = g3 at *
  refine wp_loop_rounds 1 ?_
  rw [rounds_succ]
  go_wp2_with fail
  refine Calls.mono (mhas_none _ _) ?_
  rintro e w4 ⟨rfl, hb'⟩
  replace k0 := k0.trans (hb'.mono (by have := k0.size; have := VBox.lt k1; omega))
  replace k1 := gblk hb' k1
  replace k3 := gblk hb' k3
  clear hb'
  go_wp2
  refine bodyPost_ret (v := .agg (vv z0)) ?_ rfl ⟨rfl, ?_⟩
  · exact results_cell_row Try.results34 _ _ g _ _ _ _ rfl (setRow_heap _ _ _ _ _ _ k1) Try.underlying23 rfl infoVV
  · exact (k0.mono (Nat.le_of_eq hg)).trans ⟨rfl, rfl, rfl, by simp, fun j hj => setRow_other _ _ _ _ (by omega)⟩

set_option maxHeartbeats 1000000 in
theorem mstable_any (g : Nat) (n : Int) (M : Nat → Nat → Int) (w : World) (hn : 0 ≤ n ∧ n ≤ 16) (h : MX w g n M) :
    Calls Try.prog 34 #[.pointer (some ⟨g, 0, none⟩)] w fun e w' => e = .returned (.agg (vv (stabF n M))) ∧ Below w.heap.size w w' := by
  go_enter Try.func34, Try.ntmps34
  go_wp2_with fail
  have k1 := gblk_new w (Obj.cells (vv z0) 23)
  have k0 := (Below.refl w.heap.size w).alloc (Nat.le_refl _) (Obj.cells (vv z0) 23)
  have k2 := gblk_alloc (Obj.cells (vv z0) 23) h
  clear h
  generalize w.alloc (Obj.cells (vv z0) 23) = w1 at *
  generalize hg : w.heap.size = g1 at *
  refine Calls.mono (mrow_any g n 0 M _ hn.2 k2) ?_
  rintro e w2 ⟨rfl, hb'⟩
  replace k0 := k0.trans (hb'.mono (by have := k0.size; omega))
  replace k1 := gblk hb' k1
  replace k2 := gblk hb' k2
  have q1 : g1 < w2.heap.size := VBox.lt k1
  clear hb'
  have qn := Nat.ne_of_lt q1
  go_wp2_with fail
  have k3 := gblk_new w2 (Obj.cells (vv (rowF n M 0)) 23)
  replace k1 := gblk_alloc (Obj.cells (vv (rowF n M 0)) 23) k1
  replace k2 := gblk_alloc (Obj.cells (vv (rowF n M 0)) 23) k2
  replace k0 := k0.alloc (by omega) (Obj.cells (vv (rowF n M 0)) 23)
  clear qn
  generalize w2.alloc (Obj.cells (vv (rowF n M 0)) 23) = w3 at *
  generalize hg3 : w2.heap.size = g3 at *
  have K0 := Lib.hid k0
  have K1 := Lib.hid k1
  have K2 := Lib.hid k2
  have K3 := Lib.hid k3
  clear k0 k1 k2 k3
  go_loopw [4] (fun i wr => ∃ j : Nat, 1 ≤ j ∧ ((j : Int) ≤ n ∨ j = 1) ∧ i = .int .i64 j ∧ Below g1 w wr ∧ blk wr g1 = some (.cells (vv z0) 23) ∧ blk wr g = some (.cells (mxA n M) 64) ∧ blk wr g3 = some (.cells (vv (stF n M (j - 1))) 23)) (fun i _ => 16 - (intOf i).toNat)
  case atStart => exact ⟨1, by omega, .inr rfl, rfl, K0.out, K1.out, K2.out, K3.out⟩
  case round =>
    obtain ⟨j, hj, hjn, rfl, k0, k1, k2, k3⟩ := hrel
    go_wp2_with fail
    refine Calls.mono (mhas_any g n j M _ k2) ?_
    rintro e w4 ⟨rfl, hb'⟩
    have hlt1 : g1 < wr.heap.size := VBox.lt k1
    replace k0 := k0.trans (hb'.mono (by omega))
    replace k1 := gblk hb' k1
    replace k2 := gblk hb' k2
    replace k3 := gblk hb' k3
    clear hb' hlt1
    by_cases hlt : (j : Int) < n
    · have hh : hasI n j = true := decide_eq_true ⟨by omega, hlt⟩
      rw [hh]
      have hk : j < 16 := by omega
      have hk2 : (j : Int) < 16 := by omega
      have E := Lib.hid (stF_step n M hj)
      generalize stF n M (j - 1) = a at *
      have n1 := blk_ne k1 k2
      have n3 := blk_ne k3 k2
      go_wp2_with fail
      refine wp_region_heldK (s := 8) (S := fun w' => Below g1 w w' ∧ blk w' g1 = some (.cells (vv z0) 23) ∧ blk w' g = some (.cells (mxA n M) 64) ∧ blk w' g3 = some (.cells (vv a) 23)) (by kernel_rfl) ⟨k0.drew, k1, k2, k3⟩ (fun hHeld => ?_)
      refine wpAnyK_take (i := 0) (v := ?_) rfl (by kernel_rfl) (by kernel_rfl) (by kernel_rfl) (by kernel_rfl) (by kernel_rfl) (fun _ _ _ h => h) (Or.inl ⟨by rfl, ?_⟩) hHeld ?_
      rotate_left
      · intro w hSw; (try dsimp only at hSw); (try simp only [List.getElem_toArray, List.getElem_cons_succ, List.getElem_cons_zero]); (go_simp; try with_reducible rfl)
      try simp only [List.getElem_toArray, List.getElem_cons_succ, List.getElem_cons_zero, Act.put, List.setIfInBounds_toArray, List.set_cons_zero, List.set_cons_succ]
      refine wpAnyK_take (i := 1) (v := ?_) rfl (by kernel_rfl) (by kernel_rfl) (by kernel_rfl) (by kernel_rfl) (by kernel_rfl) (fun _ _ _ h => h) (Or.inl ⟨by rfl, ?_⟩) hHeld ?_
      rotate_left
      · intro w hSw; (try dsimp only at hSw); (try simp only [List.getElem_toArray, List.getElem_cons_succ, List.getElem_cons_zero]); (go_simp; try with_reducible rfl)
      try simp only [List.getElem_toArray, List.getElem_cons_succ, List.getElem_cons_zero, Act.put, List.setIfInBounds_toArray, List.set_cons_zero, List.set_cons_succ]
      refine wpAnyK_take (i := 2) (v := ?_) rfl (by kernel_rfl) (by kernel_rfl) (by kernel_rfl) (by kernel_rfl) (by kernel_rfl) (fun _ _ _ h => h) (Or.inl ⟨by rfl, ?_⟩) hHeld ?_
      rotate_left
      · intro w hSw; (try dsimp only at hSw); (try simp only [List.getElem_toArray, List.getElem_cons_succ, List.getElem_cons_zero]); (go_simp; try with_reducible rfl)
      try simp only [List.getElem_toArray, List.getElem_cons_succ, List.getElem_cons_zero, Act.put, List.setIfInBounds_toArray, List.set_cons_zero, List.set_cons_succ]
      refine wpAnyK_take (i := 3) (v := ?_) rfl (by kernel_rfl) (by kernel_rfl) (by kernel_rfl) (by kernel_rfl) (by kernel_rfl) (fun _ _ _ h => h) (Or.inl ⟨by rfl, ?_⟩) hHeld ?_
      rotate_left
      · intro w hSw; (try dsimp only at hSw); (try simp only [List.getElem_toArray, List.getElem_cons_succ, List.getElem_cons_zero]); (go_simp; try with_reducible rfl)
      try simp only [List.getElem_toArray, List.getElem_cons_succ, List.getElem_cons_zero, Act.put, List.setIfInBounds_toArray, List.set_cons_zero, List.set_cons_succ]
      refine wpAnyK_take (i := 4) (v := ?_) rfl (by kernel_rfl) (by kernel_rfl) (by kernel_rfl) (by kernel_rfl) (by kernel_rfl) (fun _ _ _ h => h) (Or.inl ⟨by rfl, ?_⟩) hHeld ?_
      rotate_left
      · intro w hSw; (try dsimp only at hSw); (try simp only [List.getElem_toArray, List.getElem_cons_succ, List.getElem_cons_zero]); (go_simp; try with_reducible rfl)
      try simp only [List.getElem_toArray, List.getElem_cons_succ, List.getElem_cons_zero, Act.put, List.setIfInBounds_toArray, List.set_cons_zero, List.set_cons_succ]
      refine wpAnyK_take (i := 5) (v := ?_) rfl (by kernel_rfl) (by kernel_rfl) (by kernel_rfl) (by kernel_rfl) (by kernel_rfl) (fun _ _ _ h => h) (Or.inl ⟨by rfl, ?_⟩) hHeld ?_
      rotate_left
      · intro w hSw; (try dsimp only at hSw); (try simp only [List.getElem_toArray, List.getElem_cons_succ, List.getElem_cons_zero]); (go_simp; try with_reducible rfl)
      try simp only [List.getElem_toArray, List.getElem_cons_succ, List.getElem_cons_zero, Act.put, List.setIfInBounds_toArray, List.set_cons_zero, List.set_cons_succ]
      refine wpAnyK_take (i := 6) (v := ?_) rfl (by kernel_rfl) (by kernel_rfl) (by kernel_rfl) (by kernel_rfl) (by kernel_rfl) (fun _ _ _ h => h) (Or.inl ⟨by rfl, ?_⟩) hHeld ?_
      rotate_left
      · intro w hSw; (try dsimp only at hSw); (try simp only [List.getElem_toArray, List.getElem_cons_succ, List.getElem_cons_zero]); (go_simp; try with_reducible rfl)
      try simp only [List.getElem_toArray, List.getElem_cons_succ, List.getElem_cons_zero, Act.put, List.setIfInBounds_toArray, List.set_cons_zero, List.set_cons_succ]
      refine wpAnyK_one (i := 7) (by kernel_rfl) rfl (fun K hK => ?_)
      (try simp only [List.getElem_toArray, List.getElem_cons_succ, List.getElem_cons_zero])
      go_simp
      (refine Calls.mono (meet_any _ _ _) ?_; rintro x w6 ⟨rfl, hb'⟩)
      have hNew := (show _ ∧ _ ∧ _ ∧ _ from ⟨hHeld.1.trans (hb'.mono (Nat.le_of_lt (VBox.lt hHeld.2.1))), gblk hb' hHeld.2.1, gblk hb' hHeld.2.2.1, gblk hb' hHeld.2.2.2⟩)
      refine hK.out _ _ (Or.inr hNew) ?_
      clear hK K hHeld hb'
      have hHeld := hNew
      clear hNew
      try simp only [List.getElem_toArray, List.getElem_cons_succ, List.getElem_cons_zero, Act.put, List.setIfInBounds_toArray, List.set_cons_zero, List.set_cons_succ]
      obtain ⟨p0, p1, p2, p3⟩ := id hHeld
      refine wpAnyK_one (i := 8) (by kernel_rfl) rfl (fun K hK => ?_)
      (try simp only [List.getElem_toArray, List.getElem_cons_succ, List.getElem_cons_zero])
      go_simp
      refine hK.out _ _ (Or.inl (by kernel_rfl)) ?_
      clear hK K
      try simp only [List.getElem_toArray, List.getElem_cons_succ, List.getElem_cons_zero, Act.put, List.setIfInBounds_toArray, List.set_cons_zero, List.set_cons_succ]
      refine wpAnyK_done (by kernel_rfl) ?_ _
      have q13 : g1 ≠ g3 := by omega
      have q31 : g3 ≠ g1 := fun e => q13 e.symm
      rw [E.out]
      have P1 := Lib.hid (show blk (w6.setRow g3 (vv (stF n M (j + 1 - 1)))) g1 = some (.cells (vv z0) 23) by rw [blk_setRow, if_neg q13]; exact p1)
      have P2 := Lib.hid (show blk (w6.setRow g3 (vv (stF n M (j + 1 - 1)))) g = some (.cells (mxA n M) 64) by rw [blk_setRow, if_neg (fun e => n3 e.symm)]; exact p2)
      have P3 := Lib.hid (show blk (w6.setRow g3 (vv (stF n M (j + 1 - 1)))) g3 = some (.cells (vv (stF n M (j + 1 - 1))) 23) by rw [blk_setRow, if_pos rfl, p3])
      have P0 := Lib.hid (p0.trans (c := w6.setRow g3 (vv (stF n M (j + 1 - 1)))) ⟨rfl, rfl, rfl, by simp, fun i hi => setRow_other _ _ _ _ (by omega)⟩)
      clear p0 p1 p2 p3 hHeld n1 n3 q13 q31
      go_wp2
      go_roundw
      case rel => exact ⟨j + 1, by omega, .inl (by omega), by go_num, P0.out, P1.out, P2.out, P3.out⟩
      case measure => simp [intOf]; omega
    · have hh : hasI n j = false := decide_eq_false (by omega)
      rw [hh]
      have E : Hid (stF n M (j - 1) = stabF n M) := Lib.hid (by unfold stabF; congr 1; omega)
      rw [E.out] at k3
      clear hh hlt
      go_wp2
      refine bodyPost_ret (v := .agg (vv (stabF n M))) ?_ rfl ⟨rfl, ?_⟩
      · exact results_cell_row Try.results34 _ _ g1 _ _ _ _ rfl (setRow_heap _ _ _ _ _ _ k1) Try.underlying23 rfl infoVV
      · exact (k0.mono (Nat.le_of_eq hg)).trans ⟨rfl, rfl, rfl, by simp, fun j hj => setRow_other _ _ _ _ (by omega)⟩

end Go.Proofs.Ythjeginhoddmiaa
