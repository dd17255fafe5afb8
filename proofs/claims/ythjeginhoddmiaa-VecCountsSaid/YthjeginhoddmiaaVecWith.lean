/- The contracts of With: an argument that may not be, a dot that is not the next one, the vector with it. -/
import Derived.Test.YthjeginhoddmiaaVecRight
import Derived.Test.YthjeginhoddmiaaVecHas
import Derived.RegionTactic
namespace Go.Proofs.Ythjeginhoddmiaa
open Go.RowKit
attribute [local go_sem] bmax2_int bmin2_int bmax_two bmin_two blk_alloc blk_setRow blk_setCell blk_drew blk_drewN alloc_setRow cell_setRow_ne drew_setRow drewN_setRow fold_z0 vv_size vv_get vv_set
attribute [local go_sem ↓] exec_load_vv exec_store_vv exec_index_vv exec_eql_vv exec_neq_vv
attribute [local go_sem] loadVV_at storeVV_at indexVV_at eqVV_eql eqVV_neq ne_r2 ne_l2 ne_r3 ne_l3 ne_r4 ne_l4 ne_r5 ne_l5 ne_r6 ne_l6 ne_r7 ne_l7 ne_r8 ne_l8
set_option linter.unusedVariables false
set_option linter.unusedSimpArgs false

set_option maxHeartbeats 1000000 in
theorem with_wrong (v : Nat → Int) (r n : Int) (w : World) (h : rightB v = false) :
    Calls Try.prog 20 #[.agg (vv v), .agg #[.int .i64 r, .int .i64 n]] w fun e w' => e = .returned (.tuple #[.agg (vv z0), .int .i64 1]) ∧ Below w.heap.size w w' := by
  go_enter Try.func20, Try.ntmps20
  go_wp2_with fail
  generalize hw1 : ((w.alloc (Obj.cells (vv v) 23)).alloc (Obj.cells #[Value.int IntKind.i64 r, Value.int IntKind.i64 n] 28)).alloc (Obj.cells (vv z0) 23) = w1
  have k0 : Below w.heap.size w w1 := by rw [← hw1]; go_grown
  have k1 : blk w1 w.heap.size = some (.cells (vv v) 23) := by rw [← hw1]; simp [blk_alloc, ne_r2, ne_l2]
  have k2 : blk w1 (w.heap.size + 1) = some (.cells #[Value.int IntKind.i64 r, Value.int IntKind.i64 n] 28) := by rw [← hw1]; simp [blk_alloc, ne_r2, ne_l2]
  have k3 : blk w1 (w.heap.size + 1 + 1) = some (.cells (vv z0) 23) := by rw [← hw1]; simp [blk_alloc, ne_r2, ne_l2]
  clear hw1
  refine Calls.mono (right_any _ _) ?_
  rintro e w2 ⟨rfl, hb'⟩
  replace k0 := gbelow hb' k0
  replace k1 := gblk hb' k1
  replace k2 := gblk hb' k2
  replace k3 := gblk hb' k3
  clear hb'
  have K0 := Lib.hid k0
  clear k0
  go_wp2
  refine bodyPost_ret (v := .tuple #[.agg (vv z0), .int .i64 1]) ?_ rfl ⟨rfl, ?_⟩
  · have hl := run_loadVar_row (P := Try.prog) (w2.setRow (w.heap.size + 1 + 1) (vv z0)) (w.heap.size + 1 + 1) 23 23 (vv z0) (0, 0) _ (by exact setRow_heap _ _ _ _ _ _ (show (_ : World).heap[_]? = _ from k3)) Try.underlying23 rfl infoVV
    exact results_cell_tmp Try.results20 _ _ (w.heap.size + 1 + 1) _ rfl hl
  · exact K0.out.trans ⟨rfl, rfl, rfl, by simp, fun j hj => setRow_other _ _ _ _ (by omega)⟩

set_option maxHeartbeats 1000000 in
theorem with_none (v : Nat → Int) (r n : Int) (w : World) (h : rightB v = true) (hd : dotB r n = false) :
    Calls Try.prog 20 #[.agg (vv v), .agg #[.int .i64 r, .int .i64 n]] w fun e w' => e = .returned (.tuple #[.agg (vv z0), .int .i64 1]) ∧ Below w.heap.size w w' := by
  go_enter Try.func20, Try.ntmps20
  go_wp2_with fail
  generalize hw1 : ((w.alloc (Obj.cells (vv v) 23)).alloc (Obj.cells #[Value.int IntKind.i64 r, Value.int IntKind.i64 n] 28)).alloc (Obj.cells (vv z0) 23) = w1
  have k0 : Below w.heap.size w w1 := by rw [← hw1]; go_grown
  have k1 : blk w1 w.heap.size = some (.cells (vv v) 23) := by rw [← hw1]; simp [blk_alloc, ne_r2, ne_l2]
  have k2 : blk w1 (w.heap.size + 1) = some (.cells #[Value.int IntKind.i64 r, Value.int IntKind.i64 n] 28) := by rw [← hw1]; simp [blk_alloc, ne_r2, ne_l2]
  have k3 : blk w1 (w.heap.size + 1 + 1) = some (.cells (vv z0) 23) := by rw [← hw1]; simp [blk_alloc, ne_r2, ne_l2]
  clear hw1
  refine Calls.mono (right_any _ _) ?_
  rintro e w2 ⟨rfl, hb'⟩
  replace k0 := gbelow hb' k0
  replace k1 := gblk hb' k1
  replace k2 := gblk hb' k2
  replace k3 := gblk hb' k3
  clear hb'
  have K0 := Lib.hid k0
  clear k0
  have c0 : w2.cell? ⟨w.heap.size + 1, 0, none⟩ = some (.int .i64 r) := cell_of_row w2 _ 0 _ _ _ k2
  have c1 : w2.cell? ⟨w.heap.size + 1, 1, none⟩ = some (.int .i64 n) := cell_of_row w2 _ 1 _ _ _ k2
  go_wp2_with fail
  refine Calls.mono (dot_any _ _ _) ?_
  rintro e w3 ⟨rfl, hb'⟩
  clear c0 c1
  replace K0 := Lib.hid (gbelow hb' K0.out)
  replace k1 := gblk hb' k1
  replace k2 := gblk hb' k2
  replace k3 := gblk hb' k3
  clear hb'
  go_wp2
  refine bodyPost_ret (v := .tuple #[.agg (vv z0), .int .i64 1]) ?_ rfl ⟨rfl, ?_⟩
  · have hl := run_loadVar_row (P := Try.prog) (w3.setRow (w.heap.size + 1 + 1) (vv z0)) (w.heap.size + 1 + 1) 23 23 (vv z0) (0, 0) _ (by exact setRow_heap _ _ _ _ _ _ (show (_ : World).heap[_]? = _ from k3)) Try.underlying23 rfl infoVV
    exact results_cell_tmp Try.results20 _ _ (w.heap.size + 1 + 1) _ rfl hl
  · exact K0.out.trans ⟨rfl, rfl, rfl, by simp, fun j hj => setRow_other _ _ _ _ (by omega)⟩

set_option maxHeartbeats 1000000 in
theorem with_state (v : Nat → Int) (r n : Int) (w : World) (h : rightB v = true) (hd : dotB r n = true) (hn : ¬ n = v r.toNat + 1) :
    Calls Try.prog 20 #[.agg (vv v), .agg #[.int .i64 r, .int .i64 n]] w fun e w' => e = .returned (.tuple #[.agg (vv z0), .int .i64 11]) ∧ Below w.heap.size w w' := by
  obtain ⟨h0, h1, h2, h3⟩ := dotB_true hd
  have hvb := rightB_iff.1 h r.toNat (by omega)
  go_enter Try.func20, Try.ntmps20
  go_wp2_with fail
  generalize hw1 : ((w.alloc (Obj.cells (vv v) 23)).alloc (Obj.cells #[Value.int IntKind.i64 r, Value.int IntKind.i64 n] 28)).alloc (Obj.cells (vv z0) 23) = w1
  have k0 : Below w.heap.size w w1 := by rw [← hw1]; go_grown
  have k1 : blk w1 w.heap.size = some (.cells (vv v) 23) := by rw [← hw1]; simp [blk_alloc, ne_r2, ne_l2]
  have k2 : blk w1 (w.heap.size + 1) = some (.cells #[Value.int IntKind.i64 r, Value.int IntKind.i64 n] 28) := by rw [← hw1]; simp [blk_alloc, ne_r2, ne_l2]
  have k3 : blk w1 (w.heap.size + 1 + 1) = some (.cells (vv z0) 23) := by rw [← hw1]; simp [blk_alloc, ne_r2, ne_l2]
  clear hw1
  refine Calls.mono (right_any _ _) ?_
  rintro e w2 ⟨rfl, hb'⟩
  replace k0 := gbelow hb' k0
  replace k1 := gblk hb' k1
  replace k2 := gblk hb' k2
  replace k3 := gblk hb' k3
  clear hb'
  have K0 := Lib.hid k0
  clear k0
  have c0 : w2.cell? ⟨w.heap.size + 1, 0, none⟩ = some (.int .i64 r) := cell_of_row w2 _ 0 _ _ _ k2
  have c1 : w2.cell? ⟨w.heap.size + 1, 1, none⟩ = some (.int .i64 n) := cell_of_row w2 _ 1 _ _ _ k2
  go_wp2_with fail
  refine Calls.mono (dot_any _ _ _) ?_
  rintro e w3 ⟨rfl, hb'⟩
  clear c0 c1
  replace K0 := Lib.hid (gbelow hb' K0.out)
  replace k1 := gblk hb' k1
  replace k2 := gblk hb' k2
  replace k3 := gblk hb' k3
  clear hb'
  have c0 : w3.cell? ⟨w.heap.size + 1, 0, none⟩ = some (.int .i64 r) := cell_of_row w3 _ 0 _ _ _ k2
  have c1 : w3.cell? ⟨w.heap.size + 1, 1, none⟩ = some (.int .i64 n) := cell_of_row w3 _ 1 _ _ _ k2
  have cv : w3.cell? ⟨w.heap.size, r.toNat, none⟩ = some (.int .i64 (v r.toNat)) := VBox.cell (show VBox w3 _ v from k1) (by omega)
  have fv : w3.frozen? ⟨w.heap.size, r.toNat, none⟩ = false := frozen_of_row w3 _ _ _ _ k1
  go_wp2_with fail
  go_region
  go_wp2
  refine bodyPost_ret (v := .tuple #[.agg (vv z0), .int .i64 11]) ?_ rfl ⟨rfl, ?_⟩
  · have hl := run_loadVar_row (P := Try.prog) (w3.drew.setRow (w.heap.size + 1 + 1) (vv z0)) (w.heap.size + 1 + 1) 23 23 (vv z0) (0, 0) _ (by exact setRow_heap _ _ _ _ _ _ (show (_ : World).heap[_]? = _ from k3)) Try.underlying23 rfl infoVV
    exact results_cell_tmp Try.results20 _ _ (w.heap.size + 1 + 1) _ rfl hl
  · exact K0.out.drew.trans ⟨rfl, rfl, rfl, by simp, fun j hj => setRow_other _ _ _ _ (by omega)⟩

set_option maxHeartbeats 1000000 in
theorem with_ok (v : Nat → Int) (r n : Int) (w : World) (h : rightB v = true) (hd : dotB r n = true) (hn : n = v r.toNat + 1) :
    Calls Try.prog 20 #[.agg (vv v), .agg #[.int .i64 r, .int .i64 n]] w fun e w' => e = .returned (.tuple #[.agg (vv (up v r.toNat n)), .int .i64 0]) ∧ Below w.heap.size w w' := by
  obtain ⟨h0, h1, h2, h3⟩ := dotB_true hd
  have hvb := rightB_iff.1 h r.toNat (by omega)
  have H := Lib.hid hn
  have hn1 : n ≤ v r.toNat + 1 := by omega
  have hn2 : v r.toNat + 1 ≤ n := by omega
  clear hn
  go_enter Try.func20, Try.ntmps20
  go_wp2_with fail
  generalize hw1 : ((w.alloc (Obj.cells (vv v) 23)).alloc (Obj.cells #[Value.int IntKind.i64 r, Value.int IntKind.i64 n] 28)).alloc (Obj.cells (vv z0) 23) = w1
  have k0 : Below w.heap.size w w1 := by rw [← hw1]; go_grown
  have k1 : blk w1 w.heap.size = some (.cells (vv v) 23) := by rw [← hw1]; simp [blk_alloc, ne_r2, ne_l2]
  have k2 : blk w1 (w.heap.size + 1) = some (.cells #[Value.int IntKind.i64 r, Value.int IntKind.i64 n] 28) := by rw [← hw1]; simp [blk_alloc, ne_r2, ne_l2]
  have k3 : blk w1 (w.heap.size + 1 + 1) = some (.cells (vv z0) 23) := by rw [← hw1]; simp [blk_alloc, ne_r2, ne_l2]
  clear hw1
  refine Calls.mono (right_any _ _) ?_
  rintro e w2 ⟨rfl, hb'⟩
  replace k0 := gbelow hb' k0
  replace k1 := gblk hb' k1
  replace k2 := gblk hb' k2
  replace k3 := gblk hb' k3
  clear hb'
  have K0 := Lib.hid k0
  clear k0
  have c0 : w2.cell? ⟨w.heap.size + 1, 0, none⟩ = some (.int .i64 r) := cell_of_row w2 _ 0 _ _ _ k2
  have c1 : w2.cell? ⟨w.heap.size + 1, 1, none⟩ = some (.int .i64 n) := cell_of_row w2 _ 1 _ _ _ k2
  go_wp2_with fail
  refine Calls.mono (dot_any _ _ _) ?_
  rintro e w3 ⟨rfl, hb'⟩
  clear c0 c1
  replace K0 := Lib.hid (gbelow hb' K0.out)
  replace k1 := gblk hb' k1
  replace k2 := gblk hb' k2
  replace k3 := gblk hb' k3
  clear hb'
  have c0 : w3.cell? ⟨w.heap.size + 1, 0, none⟩ = some (.int .i64 r) := cell_of_row w3 _ 0 _ _ _ k2
  have c1 : w3.cell? ⟨w.heap.size + 1, 1, none⟩ = some (.int .i64 n) := cell_of_row w3 _ 1 _ _ _ k2
  have cv : w3.cell? ⟨w.heap.size, r.toNat, none⟩ = some (.int .i64 (v r.toNat)) := VBox.cell (show VBox w3 _ v from k1) (by omega)
  have fv : w3.frozen? ⟨w.heap.size, r.toNat, none⟩ = false := frozen_of_row w3 _ _ _ _ k1
  go_wp2_with fail
  go_region
  go_wp2
  refine bodyPost_ret (v := .tuple #[.agg (vv (up v r.toNat n)), .int .i64 0]) ?_ rfl ⟨rfl, ?_⟩
  · have k4 : (w3.setCell ⟨w.heap.size, r.toNat, none⟩ (.int .i64 n)).drew.heap[w.heap.size + 1 + 1]? = some (.cells (vv z0) 23) := (heap_setCell_other w3 ⟨w.heap.size, r.toNat, none⟩ (w.heap.size + 1 + 1) (.int .i64 n) (by simp; omega)).trans k3
    have hl := run_loadVar_row (P := Try.prog) ((w3.setCell ⟨w.heap.size, r.toNat, none⟩ (.int .i64 n)).drew.setRow (w.heap.size + 1 + 1) (vv (up v r.toNat n))) (w.heap.size + 1 + 1) 23 23 (vv (up v r.toNat n)) (0, 0) _ (setRow_heap _ _ _ _ _ _ k4) Try.underlying23 rfl infoVV
    exact results_cell_tmp Try.results20 _ _ (w.heap.size + 1 + 1) _ rfl hl
  · exact ((K0.out.setCell (by simp) _).drew).trans ⟨rfl, rfl, rfl, by simp, fun j hj => setRow_other _ _ _ _ (by omega)⟩

theorem with_any (v : Nat → Int) (r n : Int) (w : World) :
    Calls Try.prog 20 #[.agg (vv v), .agg #[.int .i64 r, .int .i64 n]] w fun e w' => e = .returned (.tuple #[.agg (vv (withV v r n).1), .int .i64 (withV v r n).2]) ∧ Below w.heap.size w w' := by
  unfold withV
  cases h : rightB v with
  | false => rw [if_neg (by simp)]; exact with_wrong v r n w h
  | true =>
    cases hd : dotB r n with
    | true =>
      rw [if_pos ⟨rfl, rfl⟩]
      by_cases hn : n = v r.toNat + 1
      · rw [if_pos hn]; exact with_ok v r n w h hd hn
      · rw [if_neg hn]; exact with_state v r n w h hd hn
    | false => rw [if_neg (by simp)]; exact with_none v r n w h hd

end Go.Proofs.Ythjeginhoddmiaa
