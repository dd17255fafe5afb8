/- The contract of the reference's See. No conditions. -/
import Derived.Test.YthjeginhoddmiaaRxNew
import Derived.Test.YthjeginhoddmiaaMxSee
import Derived.Test.YthjeginhoddmiaaRefJoin
import Derived.Test.YthjeginhoddmiaaRefRight
namespace Go.Proofs.Ythjeginhoddmiaa
open Go.RowKit
attribute [local go_sem] bmax2_int bmin2_int bmax_two bmin_two blk_alloc blk_setRow blk_setCell blk_drew blk_drewN alloc_setRow cell_setRow_ne drew_setRow drewN_setRow fold_z0 vv_size vv_get vv_set
attribute [local go_sem ↓] exec_load_vv exec_store_vv exec_index_vv exec_eql_vv exec_neq_vv
attribute [local go_sem] storeVV_at indexVV_at eqVV_eql eqVV_neq ne_r2 ne_l2 ne_r3 ne_l3 ne_r4 ne_l4 ne_r5 ne_l5 ne_r6 ne_l6 ne_r7 ne_l7 ne_r8 ne_l8
set_option linter.unusedVariables false
set_option linter.unusedSimpArgs false
attribute [local go_sem] loadVV_rx loadVV_r0 storeVV_rx rowR_rx rowR_rx0 rowR_vv putR_rx rxA_size makeVVs_int
attribute [local go_sem ↓] exec_make_vvs

theorem RX.ne {w : World} {p g n : Nat} {M : Nat → Nat → Int} (h : RX w p g n M) (hn : 0 < n) : p ≠ g := fun e => by
  subst e
  have h2 := h.2
  rw [h.1] at h2
  have := congrArg (fun o : Option Obj => match o with | some (.cells cs _ _) => cs.size | _ => 0) h2
  simp [rxA_size] at this
  omega
theorem RX.grown {w w' : World} {p g n k : Nat} {M : Nat → Nat → Int} (h : RX w p g n M) (hg : w.grownBy w' (some k)) (h1 : p ≠ k) (h2 : g ≠ k) : RX w' p g n M := ⟨grown_blk hg h1 h.1, grown_blk hg h2 h.2⟩

set_option maxHeartbeats 1000000 in
theorem rsee_any (p g n : Nat) (r : Int) (v : Nat → Int) (M : Nat → Nat → Int) (w : World) (hn : 0 < n) (h : RX w p g n M) :
    Calls Try.prog 36 #[.pointer (some ⟨p, 0, none⟩), .int .i64 r, .agg (vv v)] w fun e w' => e = .returned (.int .i64 (seeE n r v)) ∧ RX w' p g n (seeM n M r v) ∧ w.grownBy w' (some g) := by
  have hE : Hid (seeE n r v = if seeB n r v then 0 else 1) := Lib.hid rfl
  have hM : Hid (seeM n M r v = if seeB n r v then setM M r.toNat (joinF (M r.toNat) v) else M) := Lib.hid rfl
  have hS : Hid (seeB n r v = (hasI n r && rightB v)) := Lib.hid rfl
  have hpg := h.ne hn
  have hpl : p < w.heap.size := (Array.getElem?_eq_some_iff.1 (show w.heap[p]? = _ from h.1)).1
  have hgl : g < w.heap.size := (Array.getElem?_eq_some_iff.1 (show w.heap[g]? = _ from h.2)).1
  go_enter Try.func36, Try.ntmps36
  have k0 := Lib.hid (World.grownBy_alloc w (Obj.cells (vv v) 23) (some g))
  have k1 := gblk_new w (Obj.cells (vv v) 23)
  have k2 := h.alloc (Obj.cells (vv v) 23)
  have hpb : p ≠ w.heap.size := by omega
  have hgb : w.heap.size ≠ g := by omega
  have hgb2 : w.heap.size ≠ p := by omega
  have c0 := h.cell
  clear h
  by_cases h0 : 0 ≤ r
  rotate_left
  · have hh : hasI n r = false := decide_eq_false (by omega)
    rw [hh] at hS
    rw [show seeB n r v = false from hS.out, if_neg (by decide)] at hE hM
    have h1 : r < 0 := by omega
    go_wp2
    go_ret
    exact ⟨by rw [hE.out]; rfl, by rw [hM.out]; exact k2, k0.out⟩
  obtain ⟨k, rfl⟩ := Int.eq_ofNat_of_zero_le h0
  by_cases h1 : k < n
  rotate_left
  · have hh : hasI n k = false := decide_eq_false (by omega)
    rw [hh] at hS
    rw [show seeB n k v = false from hS.out, if_neg (by decide)] at hE hM
    have h2 : (n : Int) ≤ k := by omega
    have h00 : ¬ (k : Int) < 0 := by omega
    go_wp2
    go_ret
    exact ⟨by rw [hE.out]; rfl, by rw [hM.out]; exact k2, k0.out⟩
  have hh : hasI n k = true := decide_eq_true ⟨by omega, by omega⟩
  have h2 : ¬ (n : Int) ≤ k := by omega
  have h00 : ¬ (k : Int) < 0 := by omega
  go_wp2_with fail
  generalize w.alloc (Obj.cells (vv v) 23) = w1 at *
  generalize w.heap.size = b at *
  refine Calls.mono (rright_any _ _) ?_
  rintro e w3 ⟨rfl, hb'⟩
  replace k0 := Lib.hid (grown_trans k0.out (below_grown hb'))
  replace k1 := gblk hb' k1
  replace k2 := k2.keep hb'
  clear hb' c0
  by_cases hr : rightB v = true
  · rw [hr]
    rw [hh, hr] at hS
    rw [show seeB n k v = true from hS.out, if_pos rfl] at hE hM
    have hk2 : (k : Int) < n := by omega
    have hk3 : k * 16 + 16 ≤ n * 16 := by omega
    clear hh hr
    go_wp2_with fail
    refine wp_region_heldK (s := 15) (S := fun w' => w.grownBy w' (some g) ∧ blk w' b = some (.cells (vv v) 23) ∧ RX w' p g n M ∧ w'.cell? ⟨p, 0, none⟩ = some (.slice (some ⟨g, 0, none⟩) n n) ∧ blk w' g = some (.cells (rxA n M) 23)) (by kernel_rfl) ⟨grown_drew k0.out, k1, k2, k2.cell, k2.2⟩ (fun hHeld => ?_)
    refine wpAnyC_take (i := 0) (v := ?_) rfl (by kernel_rfl) (by kernel_rfl) (by kernel_rfl) (by kernel_rfl) (by kernel_rfl) (by kernel_rfl) (fun _ _ _ h => h) (Or.inl ⟨by rfl, ?_⟩) hHeld ?_
    rotate_left
    · intro w hSw; (try dsimp only at hSw); (try simp only [List.getElem_toArray, List.getElem_cons_succ, List.getElem_cons_zero]); (go_simp; try with_reducible rfl)
    try simp only [List.getElem_toArray, List.getElem_cons_succ, List.getElem_cons_zero, Act.put, List.setIfInBounds_toArray, List.set_cons_zero, List.set_cons_succ]
    refine wpAnyC_take (i := 1) (v := ?_) rfl (by kernel_rfl) (by kernel_rfl) (by kernel_rfl) (by kernel_rfl) (by kernel_rfl) (by kernel_rfl) (fun _ _ _ h => h) (Or.inl ⟨by rfl, ?_⟩) hHeld ?_
    rotate_left
    · intro w hSw; (try dsimp only at hSw); (try simp only [List.getElem_toArray, List.getElem_cons_succ, List.getElem_cons_zero]); (go_simp; try with_reducible rfl)
    try simp only [List.getElem_toArray, List.getElem_cons_succ, List.getElem_cons_zero, Act.put, List.setIfInBounds_toArray, List.set_cons_zero, List.set_cons_succ]
    refine wpAnyC_take (i := 2) (v := ?_) rfl (by kernel_rfl) (by kernel_rfl) (by kernel_rfl) (by kernel_rfl) (by kernel_rfl) (by kernel_rfl) (fun _ _ _ h => h) (Or.inl ⟨by rfl, ?_⟩) hHeld ?_
    rotate_left
    · intro w hSw; (try dsimp only at hSw); (try simp only [List.getElem_toArray, List.getElem_cons_succ, List.getElem_cons_zero]); (go_simp; try with_reducible rfl)
    try simp only [List.getElem_toArray, List.getElem_cons_succ, List.getElem_cons_zero, Act.put, List.setIfInBounds_toArray, List.set_cons_zero, List.set_cons_succ]
    refine wpAnyC_take (i := 3) (v := ?_) rfl (by kernel_rfl) (by kernel_rfl) (by kernel_rfl) (by kernel_rfl) (by kernel_rfl) (by kernel_rfl) (fun _ _ _ h => h) (Or.inl ⟨by rfl, ?_⟩) hHeld ?_
    rotate_left
    · intro w hSw; (try dsimp only at hSw); (try simp only [List.getElem_toArray, List.getElem_cons_succ, List.getElem_cons_zero]); (go_simp; try with_reducible rfl)
    try simp only [List.getElem_toArray, List.getElem_cons_succ, List.getElem_cons_zero, Act.put, List.setIfInBounds_toArray, List.set_cons_zero, List.set_cons_succ]
    refine wpAnyC_take (i := 4) (v := ?_) rfl (by kernel_rfl) (by kernel_rfl) (by kernel_rfl) (by kernel_rfl) (by kernel_rfl) (by kernel_rfl) (fun _ _ _ h => h) (Or.inl ⟨by rfl, ?_⟩) hHeld ?_
    rotate_left
    · intro w hSw; (try dsimp only at hSw); (try simp only [List.getElem_toArray, List.getElem_cons_succ, List.getElem_cons_zero]); (go_simp; try with_reducible rfl)
    try simp only [List.getElem_toArray, List.getElem_cons_succ, List.getElem_cons_zero, Act.put, List.setIfInBounds_toArray, List.set_cons_zero, List.set_cons_succ]
    refine wpAnyC_take (i := 5) (v := ?_) rfl (by kernel_rfl) (by kernel_rfl) (by kernel_rfl) (by kernel_rfl) (by kernel_rfl) (by kernel_rfl) (fun _ _ _ h => h) (Or.inl ⟨by rfl, ?_⟩) hHeld ?_
    rotate_left
    · intro w hSw; (try dsimp only at hSw); (try simp only [List.getElem_toArray, List.getElem_cons_succ, List.getElem_cons_zero]); (go_simp; try with_reducible rfl)
    try simp only [List.getElem_toArray, List.getElem_cons_succ, List.getElem_cons_zero, Act.put, List.setIfInBounds_toArray, List.set_cons_zero, List.set_cons_succ]
    refine wpAnyC_take (i := 6) (v := ?_) rfl (by kernel_rfl) (by kernel_rfl) (by kernel_rfl) (by kernel_rfl) (by kernel_rfl) (by kernel_rfl) (fun _ _ _ h => h) (Or.inl ⟨by rfl, ?_⟩) hHeld ?_
    rotate_left
    · intro w hSw; (try dsimp only at hSw); (try simp only [List.getElem_toArray, List.getElem_cons_succ, List.getElem_cons_zero]); (go_simp; try with_reducible rfl)
    try simp only [List.getElem_toArray, List.getElem_cons_succ, List.getElem_cons_zero, Act.put, List.setIfInBounds_toArray, List.set_cons_zero, List.set_cons_succ]
    refine wpAnyC_take (i := 7) (v := ?_) rfl (by kernel_rfl) (by kernel_rfl) (by kernel_rfl) (by kernel_rfl) (by kernel_rfl) (by kernel_rfl) (fun _ _ _ h => h) (Or.inl ⟨by rfl, ?_⟩) hHeld ?_
    rotate_left
    · intro w hSw; (try dsimp only at hSw); (try simp only [List.getElem_toArray, List.getElem_cons_succ, List.getElem_cons_zero]); (go_simp; try with_reducible rfl)
    try simp only [List.getElem_toArray, List.getElem_cons_succ, List.getElem_cons_zero, Act.put, List.setIfInBounds_toArray, List.set_cons_zero, List.set_cons_succ]
    refine wpAnyC_take (i := 8) (v := ?_) rfl (by kernel_rfl) (by kernel_rfl) (by kernel_rfl) (by kernel_rfl) (by kernel_rfl) (by kernel_rfl) (fun _ _ _ h => h) (Or.inl ⟨by rfl, ?_⟩) hHeld ?_
    rotate_left
    · intro w hSw; (try dsimp only at hSw); (try simp only [List.getElem_toArray, List.getElem_cons_succ, List.getElem_cons_zero]); (go_simp; try with_reducible rfl)
    try simp only [List.getElem_toArray, List.getElem_cons_succ, List.getElem_cons_zero, Act.put, List.setIfInBounds_toArray, List.set_cons_zero, List.set_cons_succ]
    refine wpAnyC_take (i := 9) (v := ?_) rfl (by kernel_rfl) (by kernel_rfl) (by kernel_rfl) (by kernel_rfl) (by kernel_rfl) (by kernel_rfl) (fun _ _ _ h => h) (Or.inl ⟨by rfl, ?_⟩) hHeld ?_
    rotate_left
    · intro w hSw; (try dsimp only at hSw); (try simp only [List.getElem_toArray, List.getElem_cons_succ, List.getElem_cons_zero]); (go_simp; try with_reducible rfl)
    try simp only [List.getElem_toArray, List.getElem_cons_succ, List.getElem_cons_zero, Act.put, List.setIfInBounds_toArray, List.set_cons_zero, List.set_cons_succ]
    refine wpAnyC_take (i := 10) (v := ?_) rfl (by kernel_rfl) (by kernel_rfl) (by kernel_rfl) (by kernel_rfl) (by kernel_rfl) (by kernel_rfl) (fun _ _ _ h => h) (Or.inl ⟨by rfl, ?_⟩) hHeld ?_
    rotate_left
    · intro w hSw; (try dsimp only at hSw); (try simp only [List.getElem_toArray, List.getElem_cons_succ, List.getElem_cons_zero]); (go_simp; try with_reducible rfl)
    try simp only [List.getElem_toArray, List.getElem_cons_succ, List.getElem_cons_zero, Act.put, List.setIfInBounds_toArray, List.set_cons_zero, List.set_cons_succ]
    refine wpAnyC_take (i := 11) (v := ?_) rfl (by kernel_rfl) (by kernel_rfl) (by kernel_rfl) (by kernel_rfl) (by kernel_rfl) (by kernel_rfl) (fun _ _ _ h => h) (Or.inl ⟨by rfl, ?_⟩) hHeld ?_
    rotate_left
    · intro w hSw; (try dsimp only at hSw); (try simp only [List.getElem_toArray, List.getElem_cons_succ, List.getElem_cons_zero]); (go_simp; try with_reducible rfl)
    try simp only [List.getElem_toArray, List.getElem_cons_succ, List.getElem_cons_zero, Act.put, List.setIfInBounds_toArray, List.set_cons_zero, List.set_cons_succ]
    refine wpAnyC_take (i := 12) (v := ?_) rfl (by kernel_rfl) (by kernel_rfl) (by kernel_rfl) (by kernel_rfl) (by kernel_rfl) (by kernel_rfl) (fun _ _ _ h => h) (Or.inl ⟨by rfl, ?_⟩) hHeld ?_
    rotate_left
    · intro w hSw; (try dsimp only at hSw); (try simp only [List.getElem_toArray, List.getElem_cons_succ, List.getElem_cons_zero]); (go_simp; try with_reducible rfl)
    try simp only [List.getElem_toArray, List.getElem_cons_succ, List.getElem_cons_zero, Act.put, List.setIfInBounds_toArray, List.set_cons_zero, List.set_cons_succ]
    refine wpAnyK_one (i := 13) (by kernel_rfl) rfl (fun K hK => ?_)
    (try simp only [List.getElem_toArray, List.getElem_cons_succ, List.getElem_cons_zero])
    go_simp
    (refine Calls.mono (rjoin_any _ _ _) ?_; rintro x w6 ⟨rfl, hb'⟩)
    have hNew := (show _ ∧ _ ∧ RX w6 p g n M ∧ _ ∧ _ from ⟨grown_trans hHeld.1 (below_grown hb'), gblk hb' hHeld.2.1, hHeld.2.2.1.keep hb', gcell hb' hHeld.2.2.2.1, gblk hb' hHeld.2.2.2.2⟩)
    refine hK.out _ _ (Or.inr hNew) ?_
    clear hK K hHeld hb'
    have hHeld := hNew
    clear hNew
    try simp only [List.getElem_toArray, List.getElem_cons_succ, List.getElem_cons_zero, Act.put, List.setIfInBounds_toArray, List.set_cons_zero, List.set_cons_succ]
    refine wpAnyC_take (i := 14) (v := ?_) rfl (by kernel_rfl) (by kernel_rfl) (by kernel_rfl) (by kernel_rfl) (by kernel_rfl) (by kernel_rfl) (fun _ _ _ h => h) (Or.inl ⟨by rfl, ?_⟩) hHeld ?_
    rotate_left
    · intro w hSw; (try dsimp only at hSw); (try simp only [List.getElem_toArray, List.getElem_cons_succ, List.getElem_cons_zero]); (go_simp; try with_reducible rfl)
    try simp only [List.getElem_toArray, List.getElem_cons_succ, List.getElem_cons_zero, Act.put, List.setIfInBounds_toArray, List.set_cons_zero, List.set_cons_succ]
    obtain ⟨p0, p1, p2, p3, p4⟩ := id hHeld
    refine wpAnyK_one (i := 15) (by kernel_rfl) rfl (fun K hK => ?_)
    (try simp only [List.getElem_toArray, List.getElem_cons_succ, List.getElem_cons_zero])
    go_simp
    refine hK.out _ _ (Or.inl (by kernel_rfl)) ?_
    clear hK K
    try simp only [List.getElem_toArray, List.getElem_cons_succ, List.getElem_cons_zero, Act.put, List.setIfInBounds_toArray, List.set_cons_zero, List.set_cons_succ]
    refine wpAnyK_done (by kernel_rfl) ?_ _
    have P2 := Lib.hid (show RX (w6.setRow g (rxA n (setM M k (joinF (M k) v)))) p g n (setM M k (joinF (M k) v)) from ⟨grown_blk (setRow_grown w6 g _) hpg p2.1, by rw [blk_setRow, if_pos rfl, p4]⟩)
    have P0 := Lib.hid (grown_trans p0 (setRow_grown w6 g (rxA n (setM M k (joinF (M k) v)))))
    clear p0 p1 p2 p3 p4 hHeld
    go_wp2
    go_ret
    exact ⟨by rw [hE.out]; rfl, by rw [hM.out]; exact P2.out, P0.out⟩
  · rw [Bool.not_eq_true] at hr
    rw [hr]
    rw [hh, hr] at hS
    rw [show seeB n k v = false from hS.out, if_neg (by decide)] at hE hM
    go_wp2
    go_ret
    exact ⟨by rw [hE.out]; rfl, by rw [hM.out]; exact k2, k0.out⟩

end Go.Proofs.Ythjeginhoddmiaa
