/- The contracts of the reference's Dot and Has. No conditions. -/
import Derived.Test.YtpdckjfkkiameaaVecHas
namespace Go.Proofs.Ytpdckjfkkiameaa
open Go.RowKit
attribute [local go_sem] bmax2_int bmin2_int bmax_two bmin_two blk_alloc blk_setRow blk_setCell blk_drew blk_drewN alloc_setRow cell_setRow_ne drew_setRow drewN_setRow fold_z0 vv_size vv_get vv_set
attribute [local go_sem ↓] exec_load_vv exec_store_vv exec_index_vv exec_eql_vv exec_neq_vv
attribute [local go_sem] loadVV_at storeVV_at indexVV_at eqVV_eql eqVV_neq ne_r2 ne_l2 ne_r3 ne_l3 ne_r4 ne_l4 ne_r5 ne_l5 ne_r6 ne_l6 ne_r7 ne_l7 ne_r8 ne_l8
set_option linter.unusedVariables false
set_option linter.unusedSimpArgs false

set_option maxHeartbeats 400000 in
theorem rdot_any (r n : Int) (w : World) :
    Calls Try.prog 40 #[.agg #[.int .i64 r, .int .i64 n]] w fun e w' => e = .returned (.bool (dotB r n)) ∧ Below w.heap.size w w' := by
  by_cases h0 : 0 ≤ r
  · by_cases h1 : r < 16
    · by_cases h2 : 1 ≤ n
      · by_cases h3 : n ≤ 1048576
        · have e : dotB r n = true := by unfold dotB; simp; omega
          rw [e]; clear e
          go_enter Try.func40, Try.ntmps40
          go_wp2
          go_ret
          exact ⟨by first | (simp; done) | (simp; omega), by go_grown⟩
        · have e : dotB r n = false := by unfold dotB; simp; omega
          rw [e]; clear e
          go_enter Try.func40, Try.ntmps40
          go_wp2
          go_ret
          exact ⟨by first | (simp; done) | (simp; omega), by go_grown⟩
      · have e : dotB r n = false := by unfold dotB; simp; omega
        rw [e]; clear e
        go_enter Try.func40, Try.ntmps40
        go_wp2
        go_ret
        exact ⟨by first | (simp; done) | (simp; omega), by go_grown⟩
    · have e : dotB r n = false := by unfold dotB; simp; omega
      rw [e]; clear e
      go_enter Try.func40, Try.ntmps40
      go_wp2
      go_ret
      exact ⟨by first | (simp; done) | (simp; omega), by go_grown⟩
  · have e : dotB r n = false := by unfold dotB; simp; omega
    rw [e]; clear e
    go_enter Try.func40, Try.ntmps40
    go_wp2
    go_ret
    exact ⟨by first | (simp; done) | (simp; omega), by go_grown⟩

set_option maxHeartbeats 400000 in
theorem rhas_any (v : Nat → Int) (r n : Int) (w : World) :
    Calls Try.prog 22 #[.agg (vv v), .agg #[.int .i64 r, .int .i64 n]] w fun e w' => e = .returned (.bool (hasB v r n)) ∧ Below w.heap.size w w' := by
  cases hd : dotB r n with
  | true =>
    obtain ⟨h0, h1, h2, h3⟩ := dotB_true hd
    have hr : r.toNat < 16 := by omega
    go_enter Try.func22, Try.ntmps22
    go_wp2_with fail
    generalize hw2 : (w.alloc (Obj.cells (vv v) 35)).alloc (Obj.cells #[Value.int IntKind.i64 r, Value.int IntKind.i64 n] 33) = w2
    have hb : Below w.heap.size w w2 := by rw [← hw2]; go_grown
    have hc : w2.cell? ⟨w.heap.size, r.toNat, none⟩ = some (.int .i64 (v r.toNat)) := by rw [← hw2]; exact VBox.cell ((VBox.new w v).alloc _) hr
    have h4 : w2.cell? ⟨w.heap.size + 1, 0, none⟩ = some (.int .i64 r) := by rw [← hw2]; simp
    have h5 : w2.cell? ⟨w.heap.size + 1, 1, none⟩ = some (.int .i64 n) := by rw [← hw2]; simp
    clear hw2
    go_region_held3 (fun w' => Below w.heap.size w w' ∧ w'.cell? ⟨w.heap.size, r.toNat, none⟩ = some (.int .i64 (v r.toNat)) ∧ w'.cell? ⟨w.heap.size + 1, 0, none⟩ = some (.int .i64 r) ∧ w'.cell? ⟨w.heap.size + 1, 1, none⟩ = some (.int .i64 n))
      (first | exact ⟨hb.drew, hc, h4, h5⟩ | (go_split_ands; exact ⟨gbelow hb' ‹_›, gcell hb' ‹_›, gcell hb' ‹_›, gcell hb' ‹_›⟩))
      (first | (go_at_call 40; refine (rdot_any _ _ _).mono ?_; rintro e w' ⟨rfl, hb'⟩))
    go_wp2
    go_ret
    exact ⟨by simp [hasB, hd], gbelow hb' hb.drew⟩
  | false =>
    go_enter Try.func22, Try.ntmps22
    go_wp2_with fail
    generalize hw2 : (w.alloc (Obj.cells (vv v) 35)).alloc (Obj.cells #[Value.int IntKind.i64 r, Value.int IntKind.i64 n] 33) = w2
    have hb : Below w.heap.size w w2 := by rw [← hw2]; go_grown
    have h4 : w2.cell? ⟨w.heap.size + 1, 0, none⟩ = some (.int .i64 r) := by rw [← hw2]; simp
    have h5 : w2.cell? ⟨w.heap.size + 1, 1, none⟩ = some (.int .i64 n) := by rw [← hw2]; simp
    clear hw2
    refine wp_region_held_drew (S := fun w' => Below w.heap.size w w' ∧ w'.cell? ⟨w.heap.size + 1, 0, none⟩ = some (.int .i64 r) ∧ w'.cell? ⟨w.heap.size + 1, 1, none⟩ = some (.int .i64 n)) (by kernel_rfl) ⟨hb.drew, h4, h5⟩ (fun hHeld => ?_)
    refine wpAnyH_take (i := 0) (v := ?_) rfl (by kernel_rfl) (by kernel_rfl) (by kernel_rfl) (fun _ _ _ h => h) (Or.inl ⟨by rfl, ?_⟩) hHeld ?_
    rotate_left
    · intro w hSw; (try dsimp only at hSw); (try simp only [List.getElem_toArray, List.getElem_cons_succ, List.getElem_cons_zero]); (go_simp; try with_reducible rfl)
    try simp only [List.getElem_toArray, List.getElem_cons_succ, List.getElem_cons_zero, Act.put, List.setIfInBounds_toArray, List.set_cons_zero, List.set_cons_succ]
    refine wpAnyH_ready (rs := [1]) (by kernel_rfl) (by simp) ?_
    refine AllReadyH.cons rfl (fun K hK => ?_) AllReadyH.nil
    go_simp
    (go_at_call 40; refine (rdot_any _ _ _).mono ?_; rintro e w' ⟨rfl, hb'⟩)
    refine hK.out _ _ ⟨gbelow hb' hHeld.1, gcell hb' hHeld.2.1, gcell hb' hHeld.2.2⟩ (fun hNew => ?_)
    clear hK K hHeld hb'
    have hHeld := hNew
    clear hNew
    try simp only [List.getElem_toArray, List.getElem_cons_succ, List.getElem_cons_zero, Act.put, List.setIfInBounds_toArray, List.set_cons_zero, List.set_cons_succ]
    refine wpAnyH_take (i := 2) (v := ?_) rfl (by kernel_rfl) (by kernel_rfl) (by kernel_rfl) (fun _ _ _ h => h) (Or.inl ⟨by rfl, ?_⟩) hHeld ?_
    rotate_left
    · intro w hSw; (try dsimp only at hSw); (try simp only [List.getElem_toArray, List.getElem_cons_succ, List.getElem_cons_zero]); (go_simp; try with_reducible rfl)
    try simp only [List.getElem_toArray, List.getElem_cons_succ, List.getElem_cons_zero, Act.put, List.setIfInBounds_toArray, List.set_cons_zero, List.set_cons_succ]
    refine wpAnyH_take (i := 3) rfl (by kernel_rfl) (by kernel_rfl) (by kernel_rfl) (fun _ _ _ h => h) (Or.inr ⟨by rfl, rfl⟩) hHeld ?_
    try simp only [List.getElem_toArray, List.getElem_cons_succ, List.getElem_cons_zero, Act.put, List.setIfInBounds_toArray, List.set_cons_zero, List.set_cons_succ]
    refine wpAnyH_take (i := 4) rfl (by kernel_rfl) (by kernel_rfl) (by kernel_rfl) (fun _ _ _ h => h) (Or.inr ⟨by rfl, rfl⟩) hHeld ?_
    try simp only [List.getElem_toArray, List.getElem_cons_succ, List.getElem_cons_zero, Act.put, List.setIfInBounds_toArray, List.set_cons_zero, List.set_cons_succ]
    refine wpAnyH_take (i := 5) rfl (by kernel_rfl) (by kernel_rfl) (by kernel_rfl) (fun _ _ _ h => h) (Or.inr ⟨by rfl, rfl⟩) hHeld ?_
    try simp only [List.getElem_toArray, List.getElem_cons_succ, List.getElem_cons_zero, Act.put, List.setIfInBounds_toArray, List.set_cons_zero, List.set_cons_succ]
    refine wpAnyH_take (i := 6) rfl (by kernel_rfl) (by kernel_rfl) (by kernel_rfl) (fun _ _ _ h => h) (Or.inr ⟨by rfl, rfl⟩) hHeld ?_
    try simp only [List.getElem_toArray, List.getElem_cons_succ, List.getElem_cons_zero, Act.put, List.setIfInBounds_toArray, List.set_cons_zero, List.set_cons_succ]
    refine wpAnyH_take (i := 7) rfl (by kernel_rfl) (by kernel_rfl) (by kernel_rfl) (fun _ _ _ h => h) (Or.inr ⟨by rfl, rfl⟩) hHeld ?_
    try simp only [List.getElem_toArray, List.getElem_cons_succ, List.getElem_cons_zero, Act.put, List.setIfInBounds_toArray, List.set_cons_zero, List.set_cons_succ]
    refine wpAnyH_take (i := 8) rfl (by kernel_rfl) (by kernel_rfl) (by kernel_rfl) (fun _ _ _ h => h) (Or.inr ⟨by rfl, rfl⟩) hHeld ?_
    try simp only [List.getElem_toArray, List.getElem_cons_succ, List.getElem_cons_zero, Act.put, List.setIfInBounds_toArray, List.set_cons_zero, List.set_cons_succ]
    refine wpAnyH_take (i := 9) rfl (by kernel_rfl) (by kernel_rfl) (by kernel_rfl) (fun _ _ _ h => h) (Or.inr ⟨by rfl, rfl⟩) hHeld ?_
    try simp only [List.getElem_toArray, List.getElem_cons_succ, List.getElem_cons_zero, Act.put, List.setIfInBounds_toArray, List.set_cons_zero, List.set_cons_succ]
    refine wpAnyH_take (i := 10) (v := ?_) rfl (by kernel_rfl) (by kernel_rfl) (by kernel_rfl) (fun _ _ _ h => h) (Or.inl ⟨by rfl, ?_⟩) hHeld ?_
    rotate_left
    · intro w hSw; (try dsimp only at hSw); (try simp only [List.getElem_toArray, List.getElem_cons_succ, List.getElem_cons_zero]); (go_simp; try with_reducible rfl)
    try simp only [List.getElem_toArray, List.getElem_cons_succ, List.getElem_cons_zero, Act.put, List.setIfInBounds_toArray, List.set_cons_zero, List.set_cons_succ]
    refine wpAnyH_take (i := 11) (v := ?_) rfl (by kernel_rfl) (by kernel_rfl) (by kernel_rfl) (fun _ _ _ h => h) (Or.inl ⟨by rfl, ?_⟩) hHeld ?_
    rotate_left
    · intro w hSw; (try dsimp only at hSw); (try simp only [List.getElem_toArray, List.getElem_cons_succ, List.getElem_cons_zero]); (go_simp; try with_reducible rfl)
    try simp only [List.getElem_toArray, List.getElem_cons_succ, List.getElem_cons_zero, Act.put, List.setIfInBounds_toArray, List.set_cons_zero, List.set_cons_succ]
    refine wpAnyH_done (by kernel_rfl) ?_ _
    go_wp2
    go_ret
    exact ⟨by simp [hasB, hd], hHeld.1⟩

end Go.Proofs.Ytpdckjfkkiameaa
