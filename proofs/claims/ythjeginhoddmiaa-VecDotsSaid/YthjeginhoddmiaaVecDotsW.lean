/- The walk of polyphonylaw03.VecDots: it returns true, and what was there is as it was. No conditions. -/
import Derived.Test.YthjeginhoddmiaaVecAwake
import Derived.Test.YthjeginhoddmiaaVecNext
import Derived.Test.YthjeginhoddmiaaRefNext
import Derived.Test.YthjeginhoddmiaaVecWith
import Derived.Test.YthjeginhoddmiaaRefWith
import Derived.Test.YthjeginhoddmiaaVecOpen
namespace Go.Proofs.Ythjeginhoddmiaa.vecDots
open Go.RowKit
attribute [local go_sem] bmax2_int bmin2_int bmax_two bmin_two blk_alloc blk_setRow blk_setCell blk_drew blk_drewN alloc_setRow cell_setRow_ne fold_z0 vv_size vv_get vv_set
attribute [local go_sem ↓] exec_load_vv exec_store_vv exec_index_vv exec_eql_vv exec_neq_vv
attribute [local go_sem] loadVV_at storeVV_at indexVV_at eqVV_eql eqVV_neq ne_r2 ne_l2 ne_r3 ne_l3 ne_r4 ne_l4 ne_r5 ne_l5 ne_r6 ne_l6 ne_r7 ne_l7 ne_r8 ne_l8
set_option linter.unusedVariables false
set_option linter.unusedSimpArgs false

theorem size_lt {w2 : World} {k : Nat} {o : Obj} (h : blk w2 k = some o) : k < w2.heap.size := by
  unfold blk at h
  exact (Array.getElem?_eq_some_iff.1 h).1

set_option maxRecDepth 100000 in
set_option maxHeartbeats 4000000 in
theorem walk_vv (v : Nat → Int) (dr dn r : Int) (w : World) :
    Calls Try.prog 5 #[.agg (vv v), .agg #[.int .i64 dr, .int .i64 dn], .int .i64 r] w fun e w' => e = .returned (.bool true) ∧ Below w.heap.size w w' := by
  go_enter Try.func5, Try.ntmps5
  go_wp2_with fail
  generalize hw1 : (w.alloc (Obj.cells (vv v) 23)).alloc (Obj.cells #[Value.int IntKind.i64 dr, Value.int IntKind.i64 dn] 28) = w1
  have k0 : Below w.heap.size w w1 := by rw [← hw1]; go_grown
  have k1 : blk w1 w.heap.size = some (.cells (vv v) 23) := by rw [← hw1]; simp [blk_alloc]
  have k2 : blk w1 (w.heap.size + 1) = some (.cells #[Value.int IntKind.i64 dr, Value.int IntKind.i64 dn] 28) := by rw [← hw1]; simp [blk_alloc]
  clear hw1
  refine Calls.mono (awake03_any _) ?_
  rintro e w2 ⟨rfl, hb'⟩
  replace k0 := gbelow hb' k0
  replace k1 := gblk hb' k1
  replace k2 := gblk hb' k2
  clear hb'
  go_wp2_with fail
  refine Calls.mono (next_any _ _ _) ?_
  rintro e w3 ⟨rfl, hb'⟩
  replace k0 := gbelow hb' k0
  replace k1 := gblk hb' k1
  replace k2 := gblk hb' k2
  clear hb'
  have q1 := Nat.ne_of_lt (size_lt k1)
  have q2 := Nat.ne_of_lt (size_lt k2)
  go_wp2_with fail
  clear q1 q2
  have k3 := gblk_new w3 (Obj.cells #[Value.int IntKind.i64 (nextD v r).1, Value.int IntKind.i64 (nextD v r).2.1] 28)
  have hsz : w.heap.size ≤ w3.heap.size := k0.size
  replace k0 := k0.alloc hsz (Obj.cells #[Value.int IntKind.i64 (nextD v r).1, Value.int IntKind.i64 (nextD v r).2.1] 28)
  replace k1 := gblk_alloc (Obj.cells #[Value.int IntKind.i64 (nextD v r).1, Value.int IntKind.i64 (nextD v r).2.1] 28) k1
  replace k2 := gblk_alloc (Obj.cells #[Value.int IntKind.i64 (nextD v r).1, Value.int IntKind.i64 (nextD v r).2.1] 28) k2
  generalize w3.alloc (Obj.cells #[Value.int IntKind.i64 (nextD v r).1, Value.int IntKind.i64 (nextD v r).2.1] 28) = w4 at *
  generalize w3.heap.size = g3 at *
  clear hsz
  refine Calls.mono (rnext_any _ _ _) ?_
  rintro e w5 ⟨rfl, hb'⟩
  replace k0 := gbelow hb' k0
  replace k1 := gblk hb' k1
  replace k2 := gblk hb' k2
  replace k3 := gblk hb' k3
  clear hb'
  have q1 := Nat.ne_of_lt (size_lt k1)
  have q2 := Nat.ne_of_lt (size_lt k2)
  have q3 := Nat.ne_of_lt (size_lt k3)
  have c20 : w5.cell? ⟨w.heap.size + 1, 0, none⟩ = some (.int .i64 dr) := cell_of_row w5 _ 0 _ _ _ k2
  have lt2 := size_lt k2
  have c21 : w5.cell? ⟨w.heap.size + 1, 1, none⟩ = some (.int .i64 dn) := cell_of_row w5 _ 1 _ _ _ k2
  go_wp2_with fail
  clear c20 c21 lt2
  clear q1 q2 q3
  have k4 := gblk_new w5 (Obj.cells #[Value.int IntKind.i64 (nextD v r).1, Value.int IntKind.i64 (nextD v r).2.1] 28)
  have hsz : w.heap.size ≤ w5.heap.size := k0.size
  replace k0 := k0.alloc hsz (Obj.cells #[Value.int IntKind.i64 (nextD v r).1, Value.int IntKind.i64 (nextD v r).2.1] 28)
  replace k1 := gblk_alloc (Obj.cells #[Value.int IntKind.i64 (nextD v r).1, Value.int IntKind.i64 (nextD v r).2.1] 28) k1
  replace k2 := gblk_alloc (Obj.cells #[Value.int IntKind.i64 (nextD v r).1, Value.int IntKind.i64 (nextD v r).2.1] 28) k2
  replace k3 := gblk_alloc (Obj.cells #[Value.int IntKind.i64 (nextD v r).1, Value.int IntKind.i64 (nextD v r).2.1] 28) k3
  generalize w5.alloc (Obj.cells #[Value.int IntKind.i64 (nextD v r).1, Value.int IntKind.i64 (nextD v r).2.1] 28) = w6 at *
  generalize w5.heap.size = g4 at *
  clear hsz
  refine Calls.mono (with_any _ _ _ _) ?_
  rintro e w7 ⟨rfl, hb'⟩
  replace k0 := gbelow hb' k0
  replace k1 := gblk hb' k1
  replace k2 := gblk hb' k2
  replace k3 := gblk hb' k3
  replace k4 := gblk hb' k4
  clear hb'
  have q1 := Nat.ne_of_lt (size_lt k1)
  have q2 := Nat.ne_of_lt (size_lt k2)
  have q3 := Nat.ne_of_lt (size_lt k3)
  have q4 := Nat.ne_of_lt (size_lt k4)
  have c20 : w7.cell? ⟨w.heap.size + 1, 0, none⟩ = some (.int .i64 dr) := cell_of_row w7 _ 0 _ _ _ k2
  have lt2 := size_lt k2
  have c21 : w7.cell? ⟨w.heap.size + 1, 1, none⟩ = some (.int .i64 dn) := cell_of_row w7 _ 1 _ _ _ k2
  go_wp2_with fail
  clear c20 c21 lt2
  clear q1 q2 q3 q4
  have k5 := gblk_new w7 (Obj.cells (vv (withV v dr dn).1) 23)
  have hsz : w.heap.size ≤ w7.heap.size := k0.size
  replace k0 := k0.alloc hsz (Obj.cells (vv (withV v dr dn).1) 23)
  replace k1 := gblk_alloc (Obj.cells (vv (withV v dr dn).1) 23) k1
  replace k2 := gblk_alloc (Obj.cells (vv (withV v dr dn).1) 23) k2
  replace k3 := gblk_alloc (Obj.cells (vv (withV v dr dn).1) 23) k3
  replace k4 := gblk_alloc (Obj.cells (vv (withV v dr dn).1) 23) k4
  generalize w7.alloc (Obj.cells (vv (withV v dr dn).1) 23) = w8 at *
  generalize w7.heap.size = g5 at *
  clear hsz
  refine Calls.mono (rwith_any _ _ _ _) ?_
  rintro e w9 ⟨rfl, hb'⟩
  replace k0 := gbelow hb' k0
  replace k1 := gblk hb' k1
  replace k2 := gblk hb' k2
  replace k3 := gblk hb' k3
  replace k4 := gblk hb' k4
  replace k5 := gblk hb' k5
  clear hb'
  have q1 := Nat.ne_of_lt (size_lt k1)
  have q2 := Nat.ne_of_lt (size_lt k2)
  have q3 := Nat.ne_of_lt (size_lt k3)
  have q4 := Nat.ne_of_lt (size_lt k4)
  have q5 := Nat.ne_of_lt (size_lt k5)
  go_wp2_with fail
  clear q1 q2 q3 q4 q5
  have k6 := gblk_new w9 (Obj.cells (vv (withV v dr dn).1) 23)
  have hsz : w.heap.size ≤ w9.heap.size := k0.size
  replace k0 := k0.alloc hsz (Obj.cells (vv (withV v dr dn).1) 23)
  replace k1 := gblk_alloc (Obj.cells (vv (withV v dr dn).1) 23) k1
  replace k2 := gblk_alloc (Obj.cells (vv (withV v dr dn).1) 23) k2
  replace k3 := gblk_alloc (Obj.cells (vv (withV v dr dn).1) 23) k3
  replace k4 := gblk_alloc (Obj.cells (vv (withV v dr dn).1) 23) k4
  replace k5 := gblk_alloc (Obj.cells (vv (withV v dr dn).1) 23) k5
  generalize w9.alloc (Obj.cells (vv (withV v dr dn).1) 23) = w10 at *
  generalize w9.heap.size = g6 at *
  clear hsz
  have eW : same16 (withV v dr dn).1 (withV v dr dn).1 = true := same16_refl _
  have c20 : w10.cell? ⟨w.heap.size + 1, 0, none⟩ = some (.int .i64 dr) := cell_of_row w10 _ 0 _ _ _ k2
  have c21 : w10.cell? ⟨w.heap.size + 1, 1, none⟩ = some (.int .i64 dn) := cell_of_row w10 _ 1 _ _ _ k2
  have c30 : w10.cell? ⟨g3, 0, none⟩ = some (.int .i64 (nextD v r).1) := cell_of_row w10 _ 0 _ _ _ k3
  have c31 : w10.cell? ⟨g3, 1, none⟩ = some (.int .i64 (nextD v r).2.1) := cell_of_row w10 _ 1 _ _ _ k3
  have c40 : w10.cell? ⟨g4, 0, none⟩ = some (.int .i64 (nextD v r).1) := cell_of_row w10 _ 0 _ _ _ k4
  have c41 : w10.cell? ⟨g4, 1, none⟩ = some (.int .i64 (nextD v r).2.1) := cell_of_row w10 _ 1 _ _ _ k4
  clear k2 k3 k4
  refine wp_region_held_drew (S := fun w' => Below w.heap.size w w' ∧ blk w' w.heap.size = some (.cells (vv v) 23) ∧ w'.cell? ⟨w.heap.size + 1, 0, none⟩ = some (.int .i64 dr) ∧ w'.cell? ⟨w.heap.size + 1, 1, none⟩ = some (.int .i64 dn) ∧ w'.cell? ⟨g3, 0, none⟩ = some (.int .i64 (nextD v r).1) ∧ w'.cell? ⟨g3, 1, none⟩ = some (.int .i64 (nextD v r).2.1) ∧ w'.cell? ⟨g4, 0, none⟩ = some (.int .i64 (nextD v r).1) ∧ w'.cell? ⟨g4, 1, none⟩ = some (.int .i64 (nextD v r).2.1) ∧ blk w' g5 = some (.cells (vv (withV v dr dn).1) 23) ∧ blk w' g6 = some (.cells (vv (withV v dr dn).1) 23)) (by kernel_rfl) ⟨k0.drew, k1, c20, c21, c30, c31, c40, c41, k5, k6⟩ (fun hHeld => ?_)
  refine wpAnyH_take (i := 0) (v := ?_) rfl (by kernel_rfl) (by kernel_rfl) (by kernel_rfl) (fun _ _ _ h => h) (Or.inl ⟨by rfl, ?_⟩) hHeld ?_
  rotate_left
  · intro w hSw; (try dsimp only at hSw); (try simp only [List.getElem_toArray, List.getElem_cons_succ, List.getElem_cons_zero]); (go_simp; try with_reducible rfl)
  try simp only [List.getElem_toArray, List.getElem_cons_succ, List.getElem_cons_zero, Act.put, List.setIfInBounds_toArray, List.set_cons_zero, List.set_cons_succ]
  refine wpAnyH_take (i := 2) (v := ?_) rfl (by kernel_rfl) (by kernel_rfl) (by kernel_rfl) (fun _ _ _ h => h) (Or.inl ⟨by rfl, ?_⟩) hHeld ?_
  rotate_left
  · intro w hSw; (try dsimp only at hSw); (try simp only [List.getElem_toArray, List.getElem_cons_succ, List.getElem_cons_zero]); (go_simp; try with_reducible rfl)
  try simp only [List.getElem_toArray, List.getElem_cons_succ, List.getElem_cons_zero, Act.put, List.setIfInBounds_toArray, List.set_cons_zero, List.set_cons_succ]
  refine wpAnyH_ready (rs := [1]) (by kernel_rfl) (by simp) ?_
  refine AllReadyH.cons rfl (fun K hK => ?_) AllReadyH.nil
  go_simp
  (refine Calls.mono (right_any _ _) ?_; rintro e w' ⟨rfl, hb'⟩)
  refine hK.out _ _ ⟨gbelow hb' hHeld.1, gblk hb' hHeld.2.1, gcell hb' hHeld.2.2.1, gcell hb' hHeld.2.2.2.1, gcell hb' hHeld.2.2.2.2.1, gcell hb' hHeld.2.2.2.2.2.1, gcell hb' hHeld.2.2.2.2.2.2.1, gcell hb' hHeld.2.2.2.2.2.2.2.1, gblk hb' hHeld.2.2.2.2.2.2.2.2.1, gblk hb' hHeld.2.2.2.2.2.2.2.2.2⟩ (fun hNew => ?_)
  clear hK K hHeld hb'
  have hHeld := hNew
  clear hNew
  try simp only [List.getElem_toArray, List.getElem_cons_succ, List.getElem_cons_zero, Act.put, List.setIfInBounds_toArray, List.set_cons_zero, List.set_cons_succ]
  refine wpAnyH_ready (rs := [3]) (by kernel_rfl) (by simp) ?_
  refine AllReadyH.cons rfl (fun K hK => ?_) AllReadyH.nil
  go_simp
  (refine Calls.mono (rright_any _ _) ?_; rintro e w' ⟨rfl, hb'⟩)
  refine hK.out _ _ ⟨gbelow hb' hHeld.1, gblk hb' hHeld.2.1, gcell hb' hHeld.2.2.1, gcell hb' hHeld.2.2.2.1, gcell hb' hHeld.2.2.2.2.1, gcell hb' hHeld.2.2.2.2.2.1, gcell hb' hHeld.2.2.2.2.2.2.1, gcell hb' hHeld.2.2.2.2.2.2.2.1, gblk hb' hHeld.2.2.2.2.2.2.2.2.1, gblk hb' hHeld.2.2.2.2.2.2.2.2.2⟩ (fun hNew => ?_)
  clear hK K hHeld hb'
  have hHeld := hNew
  clear hNew
  try simp only [List.getElem_toArray, List.getElem_cons_succ, List.getElem_cons_zero, Act.put, List.setIfInBounds_toArray, List.set_cons_zero, List.set_cons_succ]
  refine wpAnyH_take (i := 4) (v := ?_) rfl (by kernel_rfl) (by kernel_rfl) (by kernel_rfl) (fun _ _ _ h => h) (Or.inl ⟨by rfl, ?_⟩) hHeld ?_
  rotate_left
  · intro w hSw; (try dsimp only at hSw); (try simp only [List.getElem_toArray, List.getElem_cons_succ, List.getElem_cons_zero]); (go_simp; try with_reducible rfl)
  try simp only [List.getElem_toArray, List.getElem_cons_succ, List.getElem_cons_zero, Act.put, List.setIfInBounds_toArray, List.set_cons_zero, List.set_cons_succ]
  refine wpAnyH_take (i := 5) (v := ?_) rfl (by kernel_rfl) (by kernel_rfl) (by kernel_rfl) (fun _ _ _ h => h) (Or.inl ⟨by rfl, ?_⟩) hHeld ?_
  rotate_left
  · intro w hSw; (try dsimp only at hSw); (try simp only [List.getElem_toArray, List.getElem_cons_succ, List.getElem_cons_zero]); (go_simp; try with_reducible rfl)
  try simp only [List.getElem_toArray, List.getElem_cons_succ, List.getElem_cons_zero, Act.put, List.setIfInBounds_toArray, List.set_cons_zero, List.set_cons_succ]
  refine wpAnyH_take (i := 6) (v := ?_) rfl (by kernel_rfl) (by kernel_rfl) (by kernel_rfl) (fun _ _ _ h => h) (Or.inl ⟨by rfl, ?_⟩) hHeld ?_
  rotate_left
  · intro w hSw; (try dsimp only at hSw); (try simp only [List.getElem_toArray, List.getElem_cons_succ, List.getElem_cons_zero]); (go_simp; try with_reducible rfl)
  try simp only [List.getElem_toArray, List.getElem_cons_succ, List.getElem_cons_zero, Act.put, List.setIfInBounds_toArray, List.set_cons_zero, List.set_cons_succ]
  refine wpAnyH_take (i := 7) (v := ?_) rfl (by kernel_rfl) (by kernel_rfl) (by kernel_rfl) (fun _ _ _ h => h) (Or.inl ⟨by rfl, ?_⟩) hHeld ?_
  rotate_left
  · intro w hSw; (try dsimp only at hSw); (try simp only [List.getElem_toArray, List.getElem_cons_succ, List.getElem_cons_zero]); (go_simp; try with_reducible rfl)
  try simp only [List.getElem_toArray, List.getElem_cons_succ, List.getElem_cons_zero, Act.put, List.setIfInBounds_toArray, List.set_cons_zero, List.set_cons_succ]
  refine wpAnyH_take (i := 9) (v := ?_) rfl (by kernel_rfl) (by kernel_rfl) (by kernel_rfl) (fun _ _ _ h => h) (Or.inl ⟨by rfl, ?_⟩) hHeld ?_
  rotate_left
  · intro w hSw; (try dsimp only at hSw); (try simp only [List.getElem_toArray, List.getElem_cons_succ, List.getElem_cons_zero]); (go_simp; try with_reducible rfl)
  try simp only [List.getElem_toArray, List.getElem_cons_succ, List.getElem_cons_zero, Act.put, List.setIfInBounds_toArray, List.set_cons_zero, List.set_cons_succ]
  refine wpAnyH_take (i := 10) (v := ?_) rfl (by kernel_rfl) (by kernel_rfl) (by kernel_rfl) (fun _ _ _ h => h) (Or.inl ⟨by rfl, ?_⟩) hHeld ?_
  rotate_left
  · intro w hSw; (try dsimp only at hSw); (try simp only [List.getElem_toArray, List.getElem_cons_succ, List.getElem_cons_zero]); (go_simp; try with_reducible rfl)
  try simp only [List.getElem_toArray, List.getElem_cons_succ, List.getElem_cons_zero, Act.put, List.setIfInBounds_toArray, List.set_cons_zero, List.set_cons_succ]
  refine wpAnyH_ready (rs := [8]) (by kernel_rfl) (by simp) ?_
  refine AllReadyH.cons rfl (fun K hK => ?_) AllReadyH.nil
  go_simp
  (refine Calls.mono (has_any _ _ _ _) ?_; rintro e w' ⟨rfl, hb'⟩)
  refine hK.out _ _ ⟨gbelow hb' hHeld.1, gblk hb' hHeld.2.1, gcell hb' hHeld.2.2.1, gcell hb' hHeld.2.2.2.1, gcell hb' hHeld.2.2.2.2.1, gcell hb' hHeld.2.2.2.2.2.1, gcell hb' hHeld.2.2.2.2.2.2.1, gcell hb' hHeld.2.2.2.2.2.2.2.1, gblk hb' hHeld.2.2.2.2.2.2.2.2.1, gblk hb' hHeld.2.2.2.2.2.2.2.2.2⟩ (fun hNew => ?_)
  clear hK K hHeld hb'
  have hHeld := hNew
  clear hNew
  try simp only [List.getElem_toArray, List.getElem_cons_succ, List.getElem_cons_zero, Act.put, List.setIfInBounds_toArray, List.set_cons_zero, List.set_cons_succ]
  refine wpAnyH_ready (rs := [11]) (by kernel_rfl) (by simp) ?_
  refine AllReadyH.cons rfl (fun K hK => ?_) AllReadyH.nil
  go_simp
  (refine Calls.mono (rhas_any _ _ _ _) ?_; rintro e w' ⟨rfl, hb'⟩)
  refine hK.out _ _ ⟨gbelow hb' hHeld.1, gblk hb' hHeld.2.1, gcell hb' hHeld.2.2.1, gcell hb' hHeld.2.2.2.1, gcell hb' hHeld.2.2.2.2.1, gcell hb' hHeld.2.2.2.2.2.1, gcell hb' hHeld.2.2.2.2.2.2.1, gcell hb' hHeld.2.2.2.2.2.2.2.1, gblk hb' hHeld.2.2.2.2.2.2.2.2.1, gblk hb' hHeld.2.2.2.2.2.2.2.2.2⟩ (fun hNew => ?_)
  clear hK K hHeld hb'
  have hHeld := hNew
  clear hNew
  try simp only [List.getElem_toArray, List.getElem_cons_succ, List.getElem_cons_zero, Act.put, List.setIfInBounds_toArray, List.set_cons_zero, List.set_cons_succ]
  refine wpAnyH_take (i := 12) (v := ?_) rfl (by kernel_rfl) (by kernel_rfl) (by kernel_rfl) (fun _ _ _ h => h) (Or.inl ⟨by rfl, ?_⟩) hHeld ?_
  rotate_left
  · intro w hSw; (try dsimp only at hSw); (try simp only [List.getElem_toArray, List.getElem_cons_succ, List.getElem_cons_zero]); (go_simp; try with_reducible rfl)
  try simp only [List.getElem_toArray, List.getElem_cons_succ, List.getElem_cons_zero, Act.put, List.setIfInBounds_toArray, List.set_cons_zero, List.set_cons_succ]
  refine wpAnyH_take (i := 13) (v := ?_) rfl (by kernel_rfl) (by kernel_rfl) (by kernel_rfl) (fun _ _ _ h => h) (Or.inl ⟨by rfl, ?_⟩) hHeld ?_
  rotate_left
  · intro w hSw; (try dsimp only at hSw); (try simp only [List.getElem_toArray, List.getElem_cons_succ, List.getElem_cons_zero]); (go_simp; try with_reducible rfl)
  try simp only [List.getElem_toArray, List.getElem_cons_succ, List.getElem_cons_zero, Act.put, List.setIfInBounds_toArray, List.set_cons_zero, List.set_cons_succ]
  refine wpAnyH_take (i := 14) (v := ?_) rfl (by kernel_rfl) (by kernel_rfl) (by kernel_rfl) (fun _ _ _ h => h) (Or.inl ⟨by rfl, ?_⟩) hHeld ?_
  rotate_left
  · intro w hSw; (try dsimp only at hSw); (try simp only [List.getElem_toArray, List.getElem_cons_succ, List.getElem_cons_zero]); (go_simp; try with_reducible rfl)
  try simp only [List.getElem_toArray, List.getElem_cons_succ, List.getElem_cons_zero, Act.put, List.setIfInBounds_toArray, List.set_cons_zero, List.set_cons_succ]
  refine wpAnyH_take (i := 15) (v := ?_) rfl (by kernel_rfl) (by kernel_rfl) (by kernel_rfl) (fun _ _ _ h => h) (Or.inl ⟨by rfl, ?_⟩) hHeld ?_
  rotate_left
  · intro w hSw; (try dsimp only at hSw); (try simp only [List.getElem_toArray, List.getElem_cons_succ, List.getElem_cons_zero]); (go_simp; try with_reducible rfl)
  try simp only [List.getElem_toArray, List.getElem_cons_succ, List.getElem_cons_zero, Act.put, List.setIfInBounds_toArray, List.set_cons_zero, List.set_cons_succ]
  refine wpAnyH_take (i := 16) (v := ?_) rfl (by kernel_rfl) (by kernel_rfl) (by kernel_rfl) (fun _ _ _ h => h) (Or.inl ⟨by rfl, ?_⟩) hHeld ?_
  rotate_left
  · intro w hSw; (try dsimp only at hSw); (try simp only [List.getElem_toArray, List.getElem_cons_succ, List.getElem_cons_zero]); (go_simp; try with_reducible rfl)
  try simp only [List.getElem_toArray, List.getElem_cons_succ, List.getElem_cons_zero, Act.put, List.setIfInBounds_toArray, List.set_cons_zero, List.set_cons_succ]
  refine wpAnyH_take (i := 17) (v := ?_) rfl (by kernel_rfl) (by kernel_rfl) (by kernel_rfl) (fun _ _ _ h => h) (Or.inl ⟨by rfl, ?_⟩) hHeld ?_
  rotate_left
  · intro w hSw; (try dsimp only at hSw); (try simp only [List.getElem_toArray, List.getElem_cons_succ, List.getElem_cons_zero]); (go_simp; try with_reducible rfl)
  try simp only [List.getElem_toArray, List.getElem_cons_succ, List.getElem_cons_zero, Act.put, List.setIfInBounds_toArray, List.set_cons_zero, List.set_cons_succ]
  refine wpAnyH_take (i := 18) (v := ?_) rfl (by kernel_rfl) (by kernel_rfl) (by kernel_rfl) (fun _ _ _ h => h) (Or.inl ⟨by rfl, ?_⟩) hHeld ?_
  rotate_left
  · intro w hSw; (try dsimp only at hSw); (try simp only [List.getElem_toArray, List.getElem_cons_succ, List.getElem_cons_zero]); (go_simp; try with_reducible rfl)
  try simp only [List.getElem_toArray, List.getElem_cons_succ, List.getElem_cons_zero, Act.put, List.setIfInBounds_toArray, List.set_cons_zero, List.set_cons_succ]
  refine wpAnyH_take (i := 19) (v := ?_) rfl (by kernel_rfl) (by kernel_rfl) (by kernel_rfl) (fun _ _ _ h => h) (Or.inl ⟨by rfl, ?_⟩) hHeld ?_
  rotate_left
  · intro w hSw; (try dsimp only at hSw); (try simp only [List.getElem_toArray, List.getElem_cons_succ, List.getElem_cons_zero]); (go_simp; try with_reducible rfl)
  try simp only [List.getElem_toArray, List.getElem_cons_succ, List.getElem_cons_zero, Act.put, List.setIfInBounds_toArray, List.set_cons_zero, List.set_cons_succ]
  refine wpAnyH_take (i := 20) (v := ?_) rfl (by kernel_rfl) (by kernel_rfl) (by kernel_rfl) (fun _ _ _ h => h) (Or.inl ⟨by rfl, ?_⟩) hHeld ?_
  rotate_left
  · intro w hSw; (try dsimp only at hSw); (try simp only [List.getElem_toArray, List.getElem_cons_succ, List.getElem_cons_zero]); (go_simp; try with_reducible rfl)
  try simp only [List.getElem_toArray, List.getElem_cons_succ, List.getElem_cons_zero, Act.put, List.setIfInBounds_toArray, List.set_cons_zero, List.set_cons_succ]
  refine wpAnyH_take (i := 21) (v := ?_) rfl (by kernel_rfl) (by kernel_rfl) (by kernel_rfl) (fun _ _ _ h => h) (Or.inl ⟨by rfl, ?_⟩) hHeld ?_
  rotate_left
  · intro w hSw; (try dsimp only at hSw); (try simp only [List.getElem_toArray, List.getElem_cons_succ, List.getElem_cons_zero]); (go_simp; try with_reducible rfl)
  try simp only [List.getElem_toArray, List.getElem_cons_succ, List.getElem_cons_zero, Act.put, List.setIfInBounds_toArray, List.set_cons_zero, List.set_cons_succ]
  refine wpAnyH_take (i := 22) (v := ?_) rfl (by kernel_rfl) (by kernel_rfl) (by kernel_rfl) (fun _ _ _ h => h) (Or.inl ⟨by rfl, ?_⟩) hHeld ?_
  rotate_left
  · intro w hSw; (try dsimp only at hSw); (try simp only [List.getElem_toArray, List.getElem_cons_succ, List.getElem_cons_zero]); (go_simp; try with_reducible rfl)
  try simp only [List.getElem_toArray, List.getElem_cons_succ, List.getElem_cons_zero, Act.put, List.setIfInBounds_toArray, List.set_cons_zero, List.set_cons_succ]
  refine wpAnyH_take (i := 23) (v := ?_) rfl (by kernel_rfl) (by kernel_rfl) (by kernel_rfl) (fun _ _ _ h => h) (Or.inl ⟨by rfl, ?_⟩) hHeld ?_
  rotate_left
  · intro w hSw; (try dsimp only at hSw); (try simp only [List.getElem_toArray, List.getElem_cons_succ, List.getElem_cons_zero]); (go_simp; try with_reducible rfl)
  try simp only [List.getElem_toArray, List.getElem_cons_succ, List.getElem_cons_zero, Act.put, List.setIfInBounds_toArray, List.set_cons_zero, List.set_cons_succ]
  refine wpAnyH_take (i := 24) (v := ?_) rfl (by kernel_rfl) (by kernel_rfl) (by kernel_rfl) (fun _ _ _ h => h) (Or.inl ⟨by rfl, ?_⟩) hHeld ?_
  rotate_left
  · intro w hSw; (try dsimp only at hSw); (try simp only [List.getElem_toArray, List.getElem_cons_succ, List.getElem_cons_zero]); (go_simp; try with_reducible rfl)
  try simp only [List.getElem_toArray, List.getElem_cons_succ, List.getElem_cons_zero, Act.put, List.setIfInBounds_toArray, List.set_cons_zero, List.set_cons_succ]
  refine wpAnyH_take (i := 25) (v := ?_) rfl (by kernel_rfl) (by kernel_rfl) (by kernel_rfl) (fun _ _ _ h => h) (Or.inl ⟨by rfl, ?_⟩) hHeld ?_
  rotate_left
  · intro w hSw; (try dsimp only at hSw); (try simp only [List.getElem_toArray, List.getElem_cons_succ, List.getElem_cons_zero]); (go_simp; try with_reducible rfl)
  try simp only [List.getElem_toArray, List.getElem_cons_succ, List.getElem_cons_zero, Act.put, List.setIfInBounds_toArray, List.set_cons_zero, List.set_cons_succ]
  refine wpAnyH_take (i := 26) (v := ?_) rfl (by kernel_rfl) (by kernel_rfl) (by kernel_rfl) (fun _ _ _ h => h) (Or.inl ⟨by rfl, ?_⟩) hHeld ?_
  rotate_left
  · intro w hSw; (try dsimp only at hSw); (try simp only [List.getElem_toArray, List.getElem_cons_succ, List.getElem_cons_zero]); (go_simp; try with_reducible rfl)
  try simp only [List.getElem_toArray, List.getElem_cons_succ, List.getElem_cons_zero, Act.put, List.setIfInBounds_toArray, List.set_cons_zero, List.set_cons_succ]
  refine wpAnyH_take (i := 27) (v := ?_) rfl (by kernel_rfl) (by kernel_rfl) (by kernel_rfl) (fun _ _ _ h => h) (Or.inl ⟨by rfl, ?_⟩) hHeld ?_
  rotate_left
  · intro w hSw; (try dsimp only at hSw); (try simp only [List.getElem_toArray, List.getElem_cons_succ, List.getElem_cons_zero]); (go_simp; try with_reducible rfl)
  try simp only [List.getElem_toArray, List.getElem_cons_succ, List.getElem_cons_zero, Act.put, List.setIfInBounds_toArray, List.set_cons_zero, List.set_cons_succ]
  refine wpAnyH_take (i := 28) (v := ?_) rfl (by kernel_rfl) (by kernel_rfl) (by kernel_rfl) (fun _ _ _ h => h) (Or.inl ⟨by rfl, ?_⟩) hHeld ?_
  rotate_left
  · intro w hSw; (try dsimp only at hSw); (try simp only [List.getElem_toArray, List.getElem_cons_succ, List.getElem_cons_zero]); (go_simp; try with_reducible rfl)
  try simp only [List.getElem_toArray, List.getElem_cons_succ, List.getElem_cons_zero, Act.put, List.setIfInBounds_toArray, List.set_cons_zero, List.set_cons_succ]
  refine wpAnyH_take (i := 29) (v := ?_) rfl (by kernel_rfl) (by kernel_rfl) (by kernel_rfl) (fun _ _ _ h => h) (Or.inl ⟨by rfl, ?_⟩) hHeld ?_
  rotate_left
  · intro w hSw; (try dsimp only at hSw); (try simp only [List.getElem_toArray, List.getElem_cons_succ, List.getElem_cons_zero]); (go_simp; try with_reducible rfl)
  try simp only [List.getElem_toArray, List.getElem_cons_succ, List.getElem_cons_zero, Act.put, List.setIfInBounds_toArray, List.set_cons_zero, List.set_cons_succ]
  refine wpAnyH_take (i := 30) (v := ?_) rfl (by kernel_rfl) (by kernel_rfl) (by kernel_rfl) (fun _ _ _ h => h) (Or.inl ⟨by rfl, ?_⟩) hHeld ?_
  rotate_left
  · intro w hSw; (try dsimp only at hSw); (try simp only [List.getElem_toArray, List.getElem_cons_succ, List.getElem_cons_zero]); (go_simp; try with_reducible rfl)
  try simp only [List.getElem_toArray, List.getElem_cons_succ, List.getElem_cons_zero, Act.put, List.setIfInBounds_toArray, List.set_cons_zero, List.set_cons_succ]
  refine wpAnyH_take (i := 31) (v := ?_) rfl (by kernel_rfl) (by kernel_rfl) (by kernel_rfl) (fun _ _ _ h => h) (Or.inl ⟨by rfl, ?_⟩) hHeld ?_
  rotate_left
  · intro w hSw; (try dsimp only at hSw); (try simp only [List.getElem_toArray, List.getElem_cons_succ, List.getElem_cons_zero]); (go_simp; try with_reducible rfl)
  try simp only [List.getElem_toArray, List.getElem_cons_succ, List.getElem_cons_zero, Act.put, List.setIfInBounds_toArray, List.set_cons_zero, List.set_cons_succ]
  refine wpAnyH_take (i := 32) (v := ?_) rfl (by kernel_rfl) (by kernel_rfl) (by kernel_rfl) (fun _ _ _ h => h) (Or.inl ⟨by rfl, ?_⟩) hHeld ?_
  rotate_left
  · intro w hSw; (try dsimp only at hSw); (try simp only [List.getElem_toArray, List.getElem_cons_succ, List.getElem_cons_zero]); (go_simp; try with_reducible rfl)
  try simp only [List.getElem_toArray, List.getElem_cons_succ, List.getElem_cons_zero, Act.put, List.setIfInBounds_toArray, List.set_cons_zero, List.set_cons_succ]
  refine wpAnyH_take (i := 33) (v := ?_) rfl (by kernel_rfl) (by kernel_rfl) (by kernel_rfl) (fun _ _ _ h => h) (Or.inl ⟨by rfl, ?_⟩) hHeld ?_
  rotate_left
  · intro w hSw; (try dsimp only at hSw); (try simp only [List.getElem_toArray, List.getElem_cons_succ, List.getElem_cons_zero]); (go_simp; try with_reducible rfl)
  try simp only [List.getElem_toArray, List.getElem_cons_succ, List.getElem_cons_zero, Act.put, List.setIfInBounds_toArray, List.set_cons_zero, List.set_cons_succ]
  refine wpAnyH_take (i := 34) (v := ?_) rfl (by kernel_rfl) (by kernel_rfl) (by kernel_rfl) (fun _ _ _ h => h) (Or.inl ⟨by rfl, ?_⟩) hHeld ?_
  rotate_left
  · intro w hSw; (try dsimp only at hSw); (try simp only [List.getElem_toArray, List.getElem_cons_succ, List.getElem_cons_zero]); (go_simp; try with_reducible rfl)
  try simp only [List.getElem_toArray, List.getElem_cons_succ, List.getElem_cons_zero, Act.put, List.setIfInBounds_toArray, List.set_cons_zero, List.set_cons_succ]
  refine wpAnyH_done (by kernel_rfl) ?_ _
  go_wp2
  go_ret
  exact ⟨by simp, hHeld.1⟩

theorem walk (c0 c1 : List Value) (r : Int) (w : World) (h0 : LeavesOk [.int .i64, .int .i64, .int .i64, .int .i64, .int .i64, .int .i64, .int .i64, .int .i64, .int .i64, .int .i64, .int .i64, .int .i64, .int .i64, .int .i64, .int .i64, .int .i64] c0) (h1 : LeavesOk [.int .i64, .int .i64] c1) (w2 : (Lit.int .i64 r).wf = true) :
    Calls Try.prog 5 #[.agg c0.toArray, .agg c1.toArray, .int .i64 r] w fun e w' => e = .returned (.bool true) ∧ Below w.heap.size w w' := by
  obtain ⟨a, ea, _⟩ := vv_of h0
  obtain ⟨x, v1, e1, _, h2⟩ := h1.int
  obtain ⟨y, v2, e2, _, h3⟩ := h2.int
  have e3 := h3.none
  subst e3 e2 e1
  rw [ea]
  exact walk_vv a x y r w

end Go.Proofs.Ythjeginhoddmiaa.vecDots
