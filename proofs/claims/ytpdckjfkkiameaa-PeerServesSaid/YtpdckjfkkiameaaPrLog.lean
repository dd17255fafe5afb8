/- The contracts of New, Add and Len. Conditions: the log's list is no longer than can be. -/
import Derived.Test.YtpdckjfkkiameaaPrBase
import Derived.Test.YtpdckjfkkiameaaHeldC
namespace Go.Proofs.Ytpdckjfkkiameaa
open Go.RowKit
attribute [local go_sem] bmax2_int bmin2_int bmax_two bmin_two blk_alloc blk_setRow blk_setCell blk_drew blk_drewN alloc_setRow cell_setRow_ne drew_setRow drewN_setRow fold_z0 vv_size vv_get vv_set
attribute [local go_sem ↓] exec_load_vv exec_store_vv exec_index_vv exec_eql_vv exec_neq_vv
attribute [local go_sem] loadVV_at storeVV_at indexVV_at eqVV_eql eqVV_neq ne_r2 ne_l2 ne_r3 ne_l3 ne_r4 ne_l4 ne_r5 ne_l5 ne_r6 ne_l6 ne_r7 ne_l7 ne_r8 ne_l8
set_option linter.unusedVariables false
set_option linter.unusedSimpArgs false
attribute [local go_sem] rowN_drew fold_zE evA_size evA_get0 evA_get1 evA_get2 evA_get19 evA_get20 evA_get21 evA_get22 evA_get23 evA_get24 evA_get25 loadEv_at storeEv_at rowN_ev_new
attribute [local go_sem ↓] exec_load_ev exec_store_ev
attribute [local go_sem] fold_ev1

theorem pnew_any (w : World) :
    Calls Try.prog 11 #[] w fun e w' => e = .returned (.pointer (some ⟨w.heap.size, 0, none⟩)) ∧ w' = w.alloc (.cells #[.slice none 0 0] 31) := by
  go_enter Try.func11, Try.ntmps11
  go_wp2
  go_ret
  exact ⟨rfl, rfl⟩
theorem log_new (w : World) (base : Nat) (h : base ≤ w.heap.size) : LOG (w.alloc (.cells #[.slice none 0 0] 31)) base w.heap.size (.slice none 0 0) [] := ⟨gblk_new w _, OwnEv.nil _ _, h⟩

theorem plen_none (w : World) :
    Calls Try.prog 18 #[.pointer none] w fun e w' => e = .returned (.int .i64 0) ∧ w' = w := by
  go_enter Try.func18, Try.ntmps18
  go_wp2
  go_ret
  exact ⟨rfl, rfl⟩
theorem plen_any (base g : Nat) (v : Value) (L : List Ev) (w : World) (h : LOG w base g v L) :
    Calls Try.prog 18 #[.pointer (some ⟨g, 0, none⟩)] w fun e w' => e = .returned (.int .i64 L.length) ∧ w' = w := by
  have hc := h.cell
  obtain ⟨a, cap, rfl⟩ := h.own.form
  clear h
  go_enter Try.func18, Try.ntmps18
  go_wp2
  go_ret
  exact ⟨rfl, rfl⟩

theorem padd_none (x : Ev) (w : World) :
    Calls Try.prog 12 #[.pointer none, .agg (evA x)] w fun e w' => e = .returned (.tuple #[]) ∧ Below w.heap.size w w' := by
  go_enter Try.func12, Try.ntmps12
  go_wp2
  go_end0
  exact ⟨rfl, (Below.refl _ _).alloc (Nat.le_refl _) _⟩

set_option maxHeartbeats 1000000 in
theorem padd_any (base g : Nat) (v : Value) (L : List Ev) (x : Ev) (w : World) (h : LOG w base g v L) (hn : L.length ≤ 500000000000) :
    Calls Try.prog 12 #[.pointer (some ⟨g, 0, none⟩), .agg (evA x)] w fun e w' => e = .returned (.tuple #[]) ∧ Fr (LogX g v) w w' ∧ ∃ v', LOG w' base g v' (L ++ [x]) ∧ (v'.ownBlock = v.ownBlock ∨ ∃ k, v'.ownBlock = some k ∧ w.heap.size ≤ k) := by
  go_enter Try.func12, Try.ntmps12
  go_wp2_with fail
  have k0 := Lib.hid ((Below.refl w.heap.size w).alloc (Nat.le_refl _) (Obj.cells (evA x) 39))
  have kx := gblk_new w (Obj.cells (evA x) 39)
  have kl := h.keep k0.out
  have hlt := h.lt
  have kf0 : Hid (Fr (LogX g v) w (w.alloc (Obj.cells (evA x) 39))) := Lib.hid (Fr.of_below k0.out)
  generalize w.alloc (Obj.cells (evA x) 39) = w1 at *
  generalize hb : w.heap.size = b at *
  have hbx := kx
  refine wp_region_heldK (s := 10) (S := fun w' => blk w' g = some (.cells #[v] 31) ∧ w'.cell? ⟨g, 0, none⟩ = some v ∧ rowN 26 w' b 0 = some (evA x)) (by kernel_rfl) ⟨kl.head, kl.cell, rowN_blk kx rfl⟩ (fun hHeld => ?_)
  refine wpAnyC_take (i := 0) (v := ?_) rfl (by kernel_rfl) (by kernel_rfl) (by kernel_rfl) (by kernel_rfl) (by kernel_rfl) (by kernel_rfl) (fun _ _ _ h => h) (Or.inl ⟨by rfl, ?_⟩) hHeld ?_
  rotate_left
  · intro w hSw; (try dsimp only at hSw); (try simp only [List.getElem_toArray, List.getElem_cons_succ, List.getElem_cons_zero]); (go_simp; try with_reducible rfl)
  try simp only [List.getElem_toArray, List.getElem_cons_succ, List.getElem_cons_zero, Act.put, List.setIfInBounds_toArray, List.set_cons_zero, List.set_cons_succ]
  refine wpAnyC_take (i := 1) (v := ?_) rfl (by kernel_rfl) (by kernel_rfl) (by kernel_rfl) (by kernel_rfl) (by kernel_rfl) (by kernel_rfl) (fun _ _ _ h => h) (Or.inl ⟨by rfl, ?_⟩) hHeld ?_
  rotate_left
  · intro w hSw; (try dsimp only at hSw); (try simp only [List.getElem_toArray, List.getElem_cons_succ, List.getElem_cons_zero]); (go_simp; try with_reducible rfl)
  try simp only [List.getElem_toArray, List.getElem_cons_succ, List.getElem_cons_zero, Act.put, List.setIfInBounds_toArray, List.set_cons_zero, List.set_cons_succ]
  refine wpAnyC_take (i := 2) (v := ?_) rfl (by kernel_rfl) (by kernel_rfl) (by kernel_rfl) (by kernel_rfl) (by kernel_rfl) (by kernel_rfl) (fun _ _ _ h => h) (Or.inl ⟨by rfl, ?_⟩) hHeld ?_
  rotate_left
  · intro w hSw; (try dsimp only at hSw); (try simp only [List.getElem_toArray, List.getElem_cons_succ, List.getElem_cons_zero]); (go_simp; try with_reducible rfl)
  try simp only [List.getElem_toArray, List.getElem_cons_succ, List.getElem_cons_zero, Act.put, List.setIfInBounds_toArray, List.set_cons_zero, List.set_cons_succ]
  refine wpAnyC_take (i := 3) (v := ?_) rfl (by kernel_rfl) (by kernel_rfl) (by kernel_rfl) (by kernel_rfl) (by kernel_rfl) (by kernel_rfl) (fun _ _ _ h => h) (Or.inl ⟨by rfl, ?_⟩) hHeld ?_
  rotate_left
  · intro w hSw; (try dsimp only at hSw); (try simp only [List.getElem_toArray, List.getElem_cons_succ, List.getElem_cons_zero]); (go_simp; try with_reducible rfl)
  try simp only [List.getElem_toArray, List.getElem_cons_succ, List.getElem_cons_zero, Act.put, List.setIfInBounds_toArray, List.set_cons_zero, List.set_cons_succ]
  refine wpAnyC_take (i := 4) (v := ?_) rfl (by kernel_rfl) (by kernel_rfl) (by kernel_rfl) (by kernel_rfl) (by kernel_rfl) (by kernel_rfl) (fun _ _ _ h => h) (Or.inl ⟨by rfl, ?_⟩) hHeld ?_
  rotate_left
  · intro w hSw; (try dsimp only at hSw); (try simp only [List.getElem_toArray, List.getElem_cons_succ, List.getElem_cons_zero]); (go_simp; try with_reducible rfl)
  try simp only [List.getElem_toArray, List.getElem_cons_succ, List.getElem_cons_zero, Act.put, List.setIfInBounds_toArray, List.set_cons_zero, List.set_cons_succ]
  refine wpAnyC_take (i := 5) (v := ?_) rfl (by kernel_rfl) (by kernel_rfl) (by kernel_rfl) (by kernel_rfl) (by kernel_rfl) (by kernel_rfl) (fun _ _ _ h => h) (Or.inl ⟨by rfl, ?_⟩) hHeld ?_
  rotate_left
  · intro w hSw; (try dsimp only at hSw); (try simp only [List.getElem_toArray, List.getElem_cons_succ, List.getElem_cons_zero]); (go_simp; try with_reducible rfl)
  try simp only [List.getElem_toArray, List.getElem_cons_succ, List.getElem_cons_zero, Act.put, List.setIfInBounds_toArray, List.set_cons_zero, List.set_cons_succ]
  clear kx k0
  have kl2 : LOG w1.drew base g v L := ⟨kl.head, kl.own, kl.base_le⟩
  have kf : Fr (LogX g v) w w1.drew := kf0.out.drew
  have hb2 : b < w1.drew.heap.size := blk_lt (show blk w1.drew b = _ from hbx)
  clear kl kf0 hbx
  generalize w1.drew = wz at *
  refine wpAnyK_one (i := 6) (by kernel_rfl) rfl (fun K hK => ?_)
  (try simp only [List.getElem_toArray, List.getElem_cons_succ, List.getElem_cons_zero])
  go_simp
  have hB := (Below.refl wz.heap.size wz).alloc (Nat.le_refl _) (Obj.cells (evA x) 39)
  have hNew := And.intro (gblk hB hHeld.1) (And.intro (gcell hB hHeld.2.1) (rowN_keep hB hHeld.2.2))
  refine hK.out _ _ (Or.inr hNew) ?_
  clear hK K hHeld
  have hHeld := hNew; clear hNew
  try simp only [List.getElem_toArray, List.getElem_cons_succ, List.getElem_cons_zero, Act.put, List.setIfInBounds_toArray, List.set_cons_zero, List.set_cons_succ]
  have hS := EvSl.one wz x
  have kl := kl2.keep hB
  replace kf := kf.trans (Fr.of_below (X := LogX g v) hB)
  have hsz : b < (wz.alloc (Obj.cells (evA x) 39)).heap.size := Nat.lt_of_lt_of_le hb2 hB.size
  clear kl2 hB
  generalize wz.alloc (Obj.cells (evA x) 39) = wy at *
  refine wpAnyK_one (i := 7) (by kernel_rfl) rfl (fun K hK => ?_)
  refine append_step rfl _ _ rfl base v _ L [x] rfl rfl kl.own hS (by simp; omega) (Nat.le_trans kl.base_le (Nat.le_of_lt kl.lt)) ?_
  intro v1 wx O1 G1 T1
  have hF := Fr.of_grown (X := LogX g v) G1 (fun k e => .inr e)
  have hng : v.ownBlock ≠ some g := kl.ne (by decide)
  have hG : ∀ {o : Obj}, blk wy g = some o → blk wx g = some o := fun ho => by
    unfold blk at *
    rw [G1.block g kl.lt (fun e => hng e.symm)]; exact ho
  have hnb : v.ownBlock ≠ some b := fun e => by
    have := h.own.lt b e
    omega
  have hrow : rowN 26 wx b 0 = some (evA x) := by
    obtain ⟨h1, h2⟩ := rowN_cells hHeld.2.2
    refine rowN_of h1 fun j hj => ?_
    have h3 := h2 j hj
    rw [Array.getElem?_eq_getElem (by omega)] at h3 ⊢
    exact G1.cell h3 (fun e => hnb e.symm)
  have hNew := And.intro (hG hHeld.1) (And.intro (cell_of_row wx g 0 _ _ _ (hG hHeld.1)) hrow)
  refine hK.out _ _ (Or.inr hNew) ?_
  clear hK K hHeld
  have hHeld := hNew; clear hNew
  try simp only [List.getElem_toArray, List.getElem_cons_succ, List.getElem_cons_zero, Act.put, List.setIfInBounds_toArray, List.set_cons_zero, List.set_cons_succ]
  refine wpAnyC_take (i := 8) (v := ?_) rfl (by kernel_rfl) (by kernel_rfl) (by kernel_rfl) (by kernel_rfl) (by kernel_rfl) (by kernel_rfl) (fun _ _ _ h => h) (Or.inl ⟨by rfl, ?_⟩) hHeld ?_
  rotate_left
  · intro w hSw; (try dsimp only at hSw); (try simp only [List.getElem_toArray, List.getElem_cons_succ, List.getElem_cons_zero]); (go_simp; try with_reducible rfl)
  try simp only [List.getElem_toArray, List.getElem_cons_succ, List.getElem_cons_zero, Act.put, List.setIfInBounds_toArray, List.set_cons_zero, List.set_cons_succ]
  refine wpAnyC_take (i := 9) (v := ?_) rfl (by kernel_rfl) (by kernel_rfl) (by kernel_rfl) (by kernel_rfl) (by kernel_rfl) (by kernel_rfl) (fun _ _ _ h => h) (Or.inl ⟨by rfl, ?_⟩) hHeld ?_
  rotate_left
  · intro w hSw; (try dsimp only at hSw); (try simp only [List.getElem_toArray, List.getElem_cons_succ, List.getElem_cons_zero]); (go_simp; try with_reducible rfl)
  try simp only [List.getElem_toArray, List.getElem_cons_succ, List.getElem_cons_zero, Act.put, List.setIfInBounds_toArray, List.set_cons_zero, List.set_cons_succ]
  obtain ⟨a1, cap1, rfl⟩ := O1.form
  have hf := frozen_of_row wx g 0 _ _ hHeld.1
  refine wpAnyK_one (i := 10) (by kernel_rfl) rfl (fun K hK => ?_)
  (try simp only [List.getElem_toArray, List.getElem_cons_succ, List.getElem_cons_zero])
  go_simp
  refine hK.out _ _ (Or.inl (by kernel_rfl)) ?_
  clear hK K
  try simp only [List.getElem_toArray, List.getElem_cons_succ, List.getElem_cons_zero, Act.put, List.setIfInBounds_toArray, List.set_cons_zero, List.set_cons_succ]
  refine wpAnyK_done (by kernel_rfl) ?_ _
  have hne : some g ≠ (Value.slice a1 (L ++ [x]).length cap1).ownBlock := fun e => by
    rcases T1 with h1 | h1
    · rw [h1] at e; exact hng e.symm
    · rw [h1] at e
      have := kl.lt
      simp at e; omega
  go_end0
  refine ⟨rfl, (kf.trans hF).trans (Fr.setCell wx g 0 _ (.inl rfl)), _, LogT.put hHeld.1 (by simpa using O1) (fun e => hne (by simpa using e.symm)) kl.base_le, ?_⟩
  rcases T1 with h1 | h1
  · exact .inl (by simpa using h1)
  · exact .inr ⟨wy.heap.size, by simpa using h1, kf.size⟩

end Go.Proofs.Ytpdckjfkkiameaa
