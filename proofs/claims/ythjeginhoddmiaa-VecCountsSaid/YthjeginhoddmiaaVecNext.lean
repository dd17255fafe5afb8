/- The contracts of Next: an argument that may not be, a number at its end, the dot. The vector's numbers are what they are. -/
import Derived.Test.YthjeginhoddmiaaVecRight
import Derived.Test.YthjeginhoddmiaaVecHas
namespace Go.Proofs.Ythjeginhoddmiaa
open Go.RowKit
attribute [local go_sem] bmax2_int bmin2_int bmax_two bmin_two blk_alloc blk_setRow blk_setCell blk_drew blk_drewN alloc_setRow cell_setRow_ne drew_setRow drewN_setRow fold_z0 vv_size vv_get vv_set
attribute [local go_sem ↓] exec_load_vv exec_store_vv exec_index_vv exec_eql_vv exec_neq_vv
attribute [local go_sem] loadVV_at storeVV_at indexVV_at eqVV_eql eqVV_neq ne_r2 ne_l2 ne_r3 ne_l3 ne_r4 ne_l4 ne_r5 ne_l5 ne_r6 ne_l6 ne_r7 ne_l7 ne_r8 ne_l8
set_option linter.unusedVariables false
set_option linter.unusedSimpArgs false

set_option maxHeartbeats 400000 in
theorem next_wrong (v : Nat → Int) (r : Int) (w : World) (h : rightB v = false) :
    Calls Try.prog 18 #[.agg (vv v), .int .i64 r] w fun e w' => e = .returned (.tuple #[.agg #[.int .i64 0, .int .i64 0], .int .i64 1]) ∧ Below w.heap.size w w' := by
  go_enter Try.func18, Try.ntmps18
  go_wp2_with fail
  generalize hw1 : (w.alloc (Obj.cells (vv v) 23)).alloc (Obj.cells #[Value.int IntKind.i64 0, Value.int IntKind.i64 0] 28) = w1
  have k0 : Below w.heap.size w w1 := by rw [← hw1]; go_grown
  have k1 : blk w1 w.heap.size = some (.cells (vv v) 23) := by rw [← hw1]; simp [blk_alloc]
  have k2 : blk w1 (w.heap.size + 1) = some (.cells #[Value.int IntKind.i64 0, Value.int IntKind.i64 0] 28) := by rw [← hw1]; simp [blk_alloc]
  clear hw1
  refine Calls.mono (right_any _ _) ?_
  rintro e w2 ⟨rfl, hb'⟩
  replace k0 := gbelow hb' k0
  replace k1 := gblk hb' k1
  replace k2 := gblk hb' k2
  clear hb'
  have c0 : w2.cell? ⟨w.heap.size + 1, 0, none⟩ = some (.int .i64 0) := cell_of_row w2 _ 0 _ _ _ k2
  have c1 : w2.cell? ⟨w.heap.size + 1, 1, none⟩ = some (.int .i64 0) := cell_of_row w2 _ 1 _ _ _ k2
  have f0 : w2.frozen? ⟨w.heap.size + 1, 0, none⟩ = false := frozen_of_row w2 _ 0 _ _ k2
  have f1 : w2.frozen? ⟨w.heap.size + 1, 1, none⟩ = false := frozen_of_row w2 _ 1 _ _ k2
  have K0 := Lib.hid k0
  have K1 := Lib.hid k1
  clear k0 k1 k2
  go_wp2_with (first | (go_at_call 43; refine (replica_any _ _).mono ?_; rintro e w' ⟨rfl, rfl⟩))
  refine bodyPost_ret (v := .tuple #[.agg #[.int .i64 0, .int .i64 0], .int .i64 1]) ?_ rfl ⟨rfl, ?_⟩
  · simp [results, Try.results18, go_sem, c0, c1]
  · exact (K0.out.setCell (by simp) _).setCell (by simp) _

set_option maxHeartbeats 400000 in
theorem next_none (v : Nat → Int) (r : Int) (w : World) (h : rightB v = true) (hr : ¬ (0 ≤ r ∧ r < 16)) :
    Calls Try.prog 18 #[.agg (vv v), .int .i64 r] w fun e w' => e = .returned (.tuple #[.agg #[.int .i64 0, .int .i64 0], .int .i64 1]) ∧ Below w.heap.size w w' := by
  have hr2 : decide (0 ≤ r ∧ r < 16) = false := by simpa using hr
  clear hr
  go_enter Try.func18, Try.ntmps18
  go_wp2_with fail
  generalize hw1 : (w.alloc (Obj.cells (vv v) 23)).alloc (Obj.cells #[Value.int IntKind.i64 0, Value.int IntKind.i64 0] 28) = w1
  have k0 : Below w.heap.size w w1 := by rw [← hw1]; go_grown
  have k1 : blk w1 w.heap.size = some (.cells (vv v) 23) := by rw [← hw1]; simp [blk_alloc]
  have k2 : blk w1 (w.heap.size + 1) = some (.cells #[Value.int IntKind.i64 0, Value.int IntKind.i64 0] 28) := by rw [← hw1]; simp [blk_alloc]
  clear hw1
  refine Calls.mono (right_any _ _) ?_
  rintro e w2 ⟨rfl, hb'⟩
  replace k0 := gbelow hb' k0
  replace k1 := gblk hb' k1
  replace k2 := gblk hb' k2
  clear hb'
  have c0 : w2.cell? ⟨w.heap.size + 1, 0, none⟩ = some (.int .i64 0) := cell_of_row w2 _ 0 _ _ _ k2
  have c1 : w2.cell? ⟨w.heap.size + 1, 1, none⟩ = some (.int .i64 0) := cell_of_row w2 _ 1 _ _ _ k2
  have f0 : w2.frozen? ⟨w.heap.size + 1, 0, none⟩ = false := frozen_of_row w2 _ 0 _ _ k2
  have f1 : w2.frozen? ⟨w.heap.size + 1, 1, none⟩ = false := frozen_of_row w2 _ 1 _ _ k2
  have K0 := Lib.hid k0
  have K1 := Lib.hid k1
  clear k0 k1 k2
  go_wp2_with (first | (go_at_call 43; refine (replica_any _ _).mono ?_; rintro e w' ⟨rfl, rfl⟩))
  refine bodyPost_ret (v := .tuple #[.agg #[.int .i64 0, .int .i64 0], .int .i64 1]) ?_ rfl ⟨rfl, ?_⟩
  · simp [results, Try.results18, go_sem, c0, c1]
  · exact (K0.out.setCell (by simp) _).setCell (by simp) _

set_option maxHeartbeats 400000 in
theorem next_over (v : Nat → Int) (r : Int) (w : World) (h : rightB v = true) (hr0 : 0 ≤ r) (hr : r < 16) (hv : v r.toNat = 1048576) :
    Calls Try.prog 18 #[.agg (vv v), .int .i64 r] w fun e w' => e = .returned (.tuple #[.agg #[.int .i64 0, .int .i64 0], .int .i64 6]) ∧ Below w.heap.size w w' := by
  have hr2 : decide (0 ≤ r ∧ r < 16) = true := by simp; omega
  go_enter Try.func18, Try.ntmps18
  go_wp2_with fail
  generalize hw1 : (w.alloc (Obj.cells (vv v) 23)).alloc (Obj.cells #[Value.int IntKind.i64 0, Value.int IntKind.i64 0] 28) = w1
  have k0 : Below w.heap.size w w1 := by rw [← hw1]; go_grown
  have k1 : blk w1 w.heap.size = some (.cells (vv v) 23) := by rw [← hw1]; simp [blk_alloc]
  have k2 : blk w1 (w.heap.size + 1) = some (.cells #[Value.int IntKind.i64 0, Value.int IntKind.i64 0] 28) := by rw [← hw1]; simp [blk_alloc]
  clear hw1
  refine Calls.mono (right_any _ _) ?_
  rintro e w2 ⟨rfl, hb'⟩
  replace k0 := gbelow hb' k0
  replace k1 := gblk hb' k1
  replace k2 := gblk hb' k2
  clear hb'
  have c0 : w2.cell? ⟨w.heap.size + 1, 0, none⟩ = some (.int .i64 0) := cell_of_row w2 _ 0 _ _ _ k2
  have c1 : w2.cell? ⟨w.heap.size + 1, 1, none⟩ = some (.int .i64 0) := cell_of_row w2 _ 1 _ _ _ k2
  have f0 : w2.frozen? ⟨w.heap.size + 1, 0, none⟩ = false := frozen_of_row w2 _ 0 _ _ k2
  have f1 : w2.frozen? ⟨w.heap.size + 1, 1, none⟩ = false := frozen_of_row w2 _ 1 _ _ k2
  have K0 := Lib.hid k0
  have K1 := Lib.hid k1
  clear k0 k1 k2
  have cv : w2.cell? ⟨w.heap.size, r.toNat, none⟩ = some (.int .i64 (v r.toNat)) := VBox.cell (show VBox w2 _ v from K1.out) (by omega)
  rw [hv] at cv
  go_wp2_with (first | (go_at_call 43; refine (replica_any _ _).mono ?_; rintro e w' ⟨rfl, rfl⟩))
  refine bodyPost_ret (v := .tuple #[.agg #[.int .i64 0, .int .i64 0], .int .i64 6]) ?_ rfl ⟨rfl, ?_⟩
  · simp [results, Try.results18, go_sem, c0, c1]
  · exact (K0.out.setCell (by simp) _).setCell (by simp) _

set_option maxHeartbeats 400000 in
theorem next_ok (v : Nat → Int) (r : Int) (w : World) (h : rightB v = true) (hr0 : 0 ≤ r) (hr : r < 16) (hv : ¬ v r.toNat = 1048576) :
    Calls Try.prog 18 #[.agg (vv v), .int .i64 r] w fun e w' => e = .returned (.tuple #[.agg #[.int .i64 r, .int .i64 (v r.toNat + 1)], .int .i64 0]) ∧ Below w.heap.size w w' := by
  have hr2 : decide (0 ≤ r ∧ r < 16) = true := by simp; omega
  have hvb := rightB_iff.1 h r.toNat (by omega)
  have hvb2 : v r.toNat < 1048576 := by omega
  clear hv
  go_enter Try.func18, Try.ntmps18
  go_wp2_with fail
  generalize hw1 : (w.alloc (Obj.cells (vv v) 23)).alloc (Obj.cells #[Value.int IntKind.i64 0, Value.int IntKind.i64 0] 28) = w1
  have k0 : Below w.heap.size w w1 := by rw [← hw1]; go_grown
  have k1 : blk w1 w.heap.size = some (.cells (vv v) 23) := by rw [← hw1]; simp [blk_alloc]
  have k2 : blk w1 (w.heap.size + 1) = some (.cells #[Value.int IntKind.i64 0, Value.int IntKind.i64 0] 28) := by rw [← hw1]; simp [blk_alloc]
  clear hw1
  refine Calls.mono (right_any _ _) ?_
  rintro e w2 ⟨rfl, hb'⟩
  replace k0 := gbelow hb' k0
  replace k1 := gblk hb' k1
  replace k2 := gblk hb' k2
  clear hb'
  have c0 : w2.cell? ⟨w.heap.size + 1, 0, none⟩ = some (.int .i64 0) := cell_of_row w2 _ 0 _ _ _ k2
  have c1 : w2.cell? ⟨w.heap.size + 1, 1, none⟩ = some (.int .i64 0) := cell_of_row w2 _ 1 _ _ _ k2
  have f0 : w2.frozen? ⟨w.heap.size + 1, 0, none⟩ = false := frozen_of_row w2 _ 0 _ _ k2
  have f1 : w2.frozen? ⟨w.heap.size + 1, 1, none⟩ = false := frozen_of_row w2 _ 1 _ _ k2
  have K0 := Lib.hid k0
  have K1 := Lib.hid k1
  clear k0 k1 k2
  have cv : w2.cell? ⟨w.heap.size, r.toNat, none⟩ = some (.int .i64 (v r.toNat)) := VBox.cell (show VBox w2 _ v from K1.out) (by omega)
  go_wp2_with (first | (go_at_call 43; refine (replica_any _ _).mono ?_; rintro e w' ⟨rfl, rfl⟩))
  refine bodyPost_ret (v := .tuple #[.agg #[.int .i64 r, .int .i64 (v r.toNat + 1)], .int .i64 0]) ?_ rfl ⟨rfl, ?_⟩
  · simp [results, Try.results18, go_sem, c0, c1]
  · exact (K0.out.setCell (by simp) _).setCell (by simp) _

theorem next_any (v : Nat → Int) (r : Int) (w : World) :
    Calls Try.prog 18 #[.agg (vv v), .int .i64 r] w fun e w' => e = .returned (.tuple #[.agg #[.int .i64 (nextD v r).1, .int .i64 (nextD v r).2.1], .int .i64 (nextD v r).2.2]) ∧ Below w.heap.size w w' := by
  unfold nextD
  cases h : rightB v with
  | false => rw [if_neg (by simp)]; exact next_wrong v r w h
  | true =>
    by_cases hr : 0 ≤ r ∧ r < 16
    · rw [if_pos ⟨rfl, hr⟩]
      by_cases hv : v r.toNat = 1048576
      · rw [if_pos hv]; exact next_over v r w h hr.1 hr.2 hv
      · rw [if_neg hv]; exact next_ok v r w h hr.1 hr.2 hv
    · rw [if_neg (fun x => hr x.2)]; exact next_none v r w h hr

end Go.Proofs.Ythjeginhoddmiaa
