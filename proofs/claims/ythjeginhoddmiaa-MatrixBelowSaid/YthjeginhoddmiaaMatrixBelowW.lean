/- The walk of polyphonylaw19.MatrixBelow: it returns true, and what was there is as it was. No conditions. -/
import Derived.Test.YthjeginhoddmiaaMxAwake
import Derived.Test.YthjeginhoddmiaaMxOp
import Derived.Test.YthjeginhoddmiaaMxPlain
import Derived.Test.YthjeginhoddmiaaRefRight
import Derived.Test.YthjeginhoddmiaaRefMost
import Derived.Test.YthjeginhoddmiaaHeldC
namespace Go.Proofs.Ythjeginhoddmiaa.matrixBelow
open Go.RowKit
attribute [local go_sem] bmax2_int bmin2_int bmax_two bmin_two blk_alloc blk_setRow blk_setCell blk_drew blk_drewN alloc_setRow cell_setRow_ne drew_setRow drewN_setRow fold_z0 vv_size vv_get vv_set
attribute [local go_sem ↓] exec_load_vv exec_store_vv exec_index_vv exec_eql_vv exec_neq_vv
attribute [local go_sem] loadVV_at storeVV_at indexVV_at eqVV_eql eqVV_neq ne_r2 ne_l2 ne_r3 ne_l3 ne_r4 ne_l4 ne_r5 ne_l5 ne_r6 ne_l6 ne_r7 ne_l7 ne_r8 ne_l8
set_option linter.unusedVariables false
set_option linter.unusedSimpArgs false
attribute [local go_sem] mxA_size rowM_mx putM_mx loadVV_mx storeVV_mx buildMX_int
attribute [local go_sem ↓] exec_build_mx exec_build_mx0
attribute [local go_sem] loadVV_op rowN_drew

theorem gbel {W W' w0 : World} {B : Nat} (h : Below W.heap.size W W') (hb : Below B w0 W) (hB : B ≤ W.heap.size) : Below B w0 W' := hb.trans (h.mono hB)
set_option maxRecDepth 100000 in
set_option maxHeartbeats 4000000 in
theorem walk_op (n : Int) (a : Option Addr) (cap : Nat) (L : List (Int × (Nat → Int))) (s : Nat → Int) (w : World) (hL : L = [] ∨ ∃ b o, a = some ⟨b, o, none⟩ ∧ b < w.heap.size ∧ OpRows w b o L) :
    Calls Try.prog 11 #[.int .i64 n, .slice a L.length cap, .agg (vv s)] w fun e w' => e = .returned (.bool true) ∧ Below w.heap.size w w' := by
  have HL := Lib.hid hL
  clear hL
  go_enter Try.func11, Try.ntmps11
  go_wp2_with fail
  have k1 := gblk_new w (Obj.cells (vv s) 23)
  have k0 := (Below.refl w.heap.size w).alloc (Nat.le_refl _) (Obj.cells (vv s) 23)
  generalize w.alloc (Obj.cells (vv s) 23) = w1 at *
  generalize hg5 : w.heap.size = g5 at *
  refine Calls.mono (awake19_any _) ?_
  rintro e w2 ⟨rfl, hb'⟩
  replace k0 := gbel hb' k0 (by have := k0.size; omega)
  replace k1 := gblk hb' k1
  clear hb'
  have K0 := Lib.hid k0
  clear k0
  by_cases hlen : (L.length : Int) > 300
  · go_wp2_with fail
    refine Calls.mono (awake19_any _) ?_
    rintro e w3 ⟨rfl, hb'⟩
    have HB3 := Lib.hid (gbel hb' K0.out (Nat.le_of_lt (VBox.lt k1)))
    clear hb'
    go_wp2
    go_ret
    exact ⟨rfl, HB3.out.mono (Nat.le_of_eq hg5)⟩
  go_wp2_with fail
  refine Calls.mono (rright_any _ _) ?_
  rintro e w3 ⟨rfl, hb'⟩
  replace K0 := Lib.hid (gbel hb' K0.out (Nat.le_of_lt (VBox.lt k1)))
  replace k1 := gblk hb' k1
  clear hb'
  by_cases hr : rightB s = true
  rotate_left
  · rw [Bool.not_eq_true] at hr
    rw [hr]
    go_wp2_with fail
    refine Calls.mono (awake19_any _) ?_
    rintro e w4 ⟨rfl, hb'⟩
    have HB3 := Lib.hid (gbel hb' K0.out (Nat.le_of_lt (VBox.lt k1)))
    clear hb'
    go_wp2
    go_ret
    exact ⟨rfl, HB3.out.mono (Nat.le_of_eq hg5)⟩
  rw [hr]
  have HR := Lib.hid (rightB_iff.1 hr)
  clear hr
  go_wp2_with fail
  refine Calls.mono (mnew_any n w3) ?_
  rintro e w4 ⟨rfl, hb', hm⟩
  replace K0 := Lib.hid (gbel hb' K0.out (Nat.le_of_lt (VBox.lt k1)))
  have hlt5 : g5 < w3.heap.size := VBox.lt k1
  have K1 := Lib.hid (gblk hb' k1)
  have K2 : Hid (MX w4 w3.heap.size (dimI n) (runM (dimI n) zM (L.take 0))) := Lib.hid hm
  clear hb' hm k1
  generalize hgm : w3.heap.size = gm at *
  have hdn := dimI_bd n
  have HD : Hid (dimI n = mx 1 (mn n 16)) := Lib.hid rfl
  generalize dimI n = dn at *
  go_wp2_with fail
  go_loopw [31] (fun i wr => ∃ k : Nat, k ≤ L.length ∧ i = .int .i64 k ∧ Below g5 w wr ∧ blk wr g5 = some (.cells (vv s) 23) ∧ MX wr gm dn (runM dn zM (L.take k))) (fun i _ => L.length - (intOf i).toNat)
  case atStart => exact ⟨0, by omega, rfl, K0.out, K1.out, K2.out⟩
  case round =>
    obtain ⟨k, hk, rfl, k0, k1, k2⟩ := hrel
    by_cases hlt : k < L.length
    · rcases HL.out with h0 | ⟨b, o, rfl, hbw, hrows⟩
      · rw [h0] at hlt; simp at hlt
      have hrk := (hrows.keep (k0.mono (Nat.le_of_eq hg5))) k hlt
      have E := Lib.hid (runM_succ dn zM L hlt)
      obtain ⟨c1, c2⟩ := hrk
      clear hrows
      generalize L[k].1 = r at *
      generalize L[k].2 = v at *
      generalize runM dn zM (L.take k) = M at *
      have P0 := Lib.hid k0
      have P1 := Lib.hid k1
      go_wp2_with fail
      have hne : g5 ≠ gm := by omega
      have hbl : b ≠ gm := by omega
      refine wp_region_heldK (s := 11) (S := fun w' => Below g5 w w' ∧ g5 ≤ w'.heap.size ∧ blk w' g5 = some (.cells (vv s) 23) ∧ MX w' gm dn M ∧ w'.cell? ⟨b, o + k * 17, none⟩ = some (.int .i64 r) ∧ rowN 16 w' b (o + k * 17 + 1) = some (vv v)) (by kernel_rfl) ⟨P0.out.drew, Nat.le_of_lt (VBox.lt P1.out), P1.out, k2, c1, c2⟩ (fun hHeld => ?_)
      refine wpAnyC_take (i := 0) (v := ?_) rfl (by kernel_rfl) (by kernel_rfl) (by kernel_rfl) (by kernel_rfl) (by kernel_rfl) (by kernel_rfl) (fun _ _ _ h => h) (Or.inl ⟨by rfl, ?_⟩) hHeld ?_
      rotate_left
      · intro w hSw; (try dsimp only at hSw); (try simp only [List.getElem_toArray, List.getElem_cons_succ, List.getElem_cons_zero]); (go_simp; try with_reducible rfl)
      try simp only [List.getElem_toArray, List.getElem_cons_succ, List.getElem_cons_zero, Act.put, List.setIfInBounds_toArray, List.set_cons_zero, List.set_cons_succ]
      refine wpAnyC_take (i := 1) (v := ?_) rfl (by kernel_rfl) (by kernel_rfl) (by kernel_rfl) (by kernel_rfl) (by kernel_rfl) (by kernel_rfl) (fun _ _ _ h => h) (Or.inl ⟨by rfl, ?_⟩) hHeld ?_
      rotate_left
      · intro w hSw; (try dsimp only at hSw); (try simp only [List.getElem_toArray, List.getElem_cons_succ, List.getElem_cons_zero]); (go_simp; try with_reducible rfl)
      try simp only [List.getElem_toArray, List.getElem_cons_succ, List.getElem_cons_zero, Act.put, List.setIfInBounds_toArray, List.set_cons_zero, List.set_cons_succ]
      refine wpAnyC_take (i := 2) (v := ?_) rfl (by kernel_rfl) (by kernel_rfl) (by kernel_rfl) (by kernel_rfl) (by kernel_rfl) (by kernel_rfl) (fun _ _ _ h => h) (Or.inl ⟨by rfl, ?_⟩) hHeld ?_
      rotate_left
      · intro w hSw; (try dsimp only at hSw); (try simp only [List.getElem_toArray, List.getElem_cons_succ, List.getElem_cons_zero]); (go_simp; try with_reducible rfl)
      try simp only [List.getElem_toArray, List.getElem_cons_succ, List.getElem_cons_zero, Act.put, List.setIfInBounds_toArray, List.set_cons_zero, List.set_cons_succ]
      refine wpAnyC_take (i := 3) (v := ?_) rfl (by kernel_rfl) (by kernel_rfl) (by kernel_rfl) (by kernel_rfl) (by kernel_rfl) (by kernel_rfl) (fun _ _ _ h => h) (Or.inl ⟨by rfl, ?_⟩) hHeld ?_
      rotate_left
      · intro w hSw; (try dsimp only at hSw); (try simp only [List.getElem_toArray, List.getElem_cons_succ, List.getElem_cons_zero]); (go_simp; try with_reducible rfl)
      try simp only [List.getElem_toArray, List.getElem_cons_succ, List.getElem_cons_zero, Act.put, List.setIfInBounds_toArray, List.set_cons_zero, List.set_cons_succ]
      refine wpAnyC_take (i := 4) (v := ?_) rfl (by kernel_rfl) (by kernel_rfl) (by kernel_rfl) (by kernel_rfl) (by kernel_rfl) (by kernel_rfl) (fun _ _ _ h => h) (Or.inl ⟨by rfl, ?_⟩) hHeld ?_
      rotate_left
      · intro w hSw; (try dsimp only at hSw); (try simp only [List.getElem_toArray, List.getElem_cons_succ, List.getElem_cons_zero]); (go_simp; try with_reducible rfl)
      try simp only [List.getElem_toArray, List.getElem_cons_succ, List.getElem_cons_zero, Act.put, List.setIfInBounds_toArray, List.set_cons_zero, List.set_cons_succ]
      refine wpAnyC_take (i := 5) (v := ?_) rfl (by kernel_rfl) (by kernel_rfl) (by kernel_rfl) (by kernel_rfl) (by kernel_rfl) (by kernel_rfl) (fun _ _ _ h => h) (Or.inl ⟨by rfl, ?_⟩) hHeld ?_
      rotate_left
      · intro w hSw; (try dsimp only at hSw); (try simp only [List.getElem_toArray, List.getElem_cons_succ, List.getElem_cons_zero]); (go_simp; try with_reducible rfl)
      try simp only [List.getElem_toArray, List.getElem_cons_succ, List.getElem_cons_zero, Act.put, List.setIfInBounds_toArray, List.set_cons_zero, List.set_cons_succ]
      refine wpAnyC_take (i := 6) (v := ?_) rfl (by kernel_rfl) (by kernel_rfl) (by kernel_rfl) (by kernel_rfl) (by kernel_rfl) (by kernel_rfl) (fun _ _ _ h => h) (Or.inl ⟨by rfl, ?_⟩) hHeld ?_
      rotate_left
      · intro w hSw; (try dsimp only at hSw); (try simp only [List.getElem_toArray, List.getElem_cons_succ, List.getElem_cons_zero]); (go_simp; try with_reducible rfl)
      try simp only [List.getElem_toArray, List.getElem_cons_succ, List.getElem_cons_zero, Act.put, List.setIfInBounds_toArray, List.set_cons_zero, List.set_cons_succ]
      refine wpAnyC_take (i := 7) (v := ?_) rfl (by kernel_rfl) (by kernel_rfl) (by kernel_rfl) (by kernel_rfl) (by kernel_rfl) (by kernel_rfl) (fun _ _ _ h => h) (Or.inl ⟨by rfl, ?_⟩) hHeld ?_
      rotate_left
      · intro w hSw; (try dsimp only at hSw); (try simp only [List.getElem_toArray, List.getElem_cons_succ, List.getElem_cons_zero]); (go_simp; try with_reducible rfl)
      try simp only [List.getElem_toArray, List.getElem_cons_succ, List.getElem_cons_zero, Act.put, List.setIfInBounds_toArray, List.set_cons_zero, List.set_cons_succ]
      refine wpAnyC_take (i := 8) (v := ?_) rfl (by kernel_rfl) (by kernel_rfl) (by kernel_rfl) (by kernel_rfl) (by kernel_rfl) (by kernel_rfl) (fun _ _ _ h => h) (Or.inl ⟨by rfl, ?_⟩) hHeld ?_
      rotate_left
      · intro w hSw; (try dsimp only at hSw); (try simp only [List.getElem_toArray, List.getElem_cons_succ, List.getElem_cons_zero]); (go_simp; try with_reducible rfl)
      try simp only [List.getElem_toArray, List.getElem_cons_succ, List.getElem_cons_zero, Act.put, List.setIfInBounds_toArray, List.set_cons_zero, List.set_cons_succ]
      refine wpAnyC_take (i := 9) (v := ?_) rfl (by kernel_rfl) (by kernel_rfl) (by kernel_rfl) (by kernel_rfl) (by kernel_rfl) (by kernel_rfl) (fun _ _ _ h => h) (Or.inl ⟨by rfl, ?_⟩) hHeld ?_
      rotate_left
      · intro w hSw; (try dsimp only at hSw); (try simp only [List.getElem_toArray, List.getElem_cons_succ, List.getElem_cons_zero]); (go_simp; try with_reducible rfl)
      try simp only [List.getElem_toArray, List.getElem_cons_succ, List.getElem_cons_zero, Act.put, List.setIfInBounds_toArray, List.set_cons_zero, List.set_cons_succ]
      refine wpAnyC_take (i := 10) (v := ?_) rfl (by kernel_rfl) (by kernel_rfl) (by kernel_rfl) (by kernel_rfl) (by kernel_rfl) (by kernel_rfl) (fun _ _ _ h => h) (Or.inl ⟨by rfl, ?_⟩) hHeld ?_
      rotate_left
      · intro w hSw; (try dsimp only at hSw); (try simp only [List.getElem_toArray, List.getElem_cons_succ, List.getElem_cons_zero]); (go_simp; try with_reducible rfl)
      try simp only [List.getElem_toArray, List.getElem_cons_succ, List.getElem_cons_zero, Act.put, List.setIfInBounds_toArray, List.set_cons_zero, List.set_cons_succ]
      skip
      refine wpAnyK_one (i := 11) (by kernel_rfl) rfl (fun K hK => ?_)
      (try simp only [List.getElem_toArray, List.getElem_cons_succ, List.getElem_cons_zero])
      go_simp
      (refine Calls.mono (msee_any gm dn r v M _ hdn.2 hHeld.2.2.2.1) ?_; rintro x w6 ⟨rfl, hm, hb'⟩)
      refine hK.out _ _ (Or.inl (by kernel_rfl)) ?_
      clear hK K
      try simp only [List.getElem_toArray, List.getElem_cons_succ, List.getElem_cons_zero, Act.put, List.setIfInBounds_toArray, List.set_cons_zero, List.set_cons_succ]
      refine wpAnyK_done (by kernel_rfl) ?_ _
      have Q0 := Lib.hid (grown_new hb' hHeld.2.1 (Nat.le_of_lt hlt5) hHeld.1)
      have Q1 := Lib.hid (grown_blk hb' hne hHeld.2.2.1)
      have Q2 : Hid (MX w6 gm dn (runM dn zM (L.take (k + 1)))) := Lib.hid (by rw [E.out]; exact hm)
      clear hHeld hb' hm hne hbl P0 P1 k0 k1 k2 c1 c2
      go_wp2
      go_roundw
      case rel => exact ⟨k + 1, by omega, by go_num, Q0.out, Q1.out, Q2.out⟩
      case measure => simp [intOf]; omega
    · have e : k = L.length := by omega
      subst e
      rw [List.take_length] at k2
      have hnn := Lib.hid (nn_run (n := dn) nn_z L)
      generalize runM dn zM L = M at *
      have K0 := Lib.hid k0
      clear k0 hlt
      go_wp2_with fail
      refine Calls.mono (mcut_any gm dn M s _ ⟨by omega, hdn.2⟩ k2) ?_
      rintro e w7 ⟨rfl, hb'⟩
      replace K0 := Lib.hid (gbel hb' K0.out (Nat.le_of_lt (VBox.lt k1)))
      replace k1 := gblk hb' k1
      replace k2 : MX w7 gm dn M := gblk hb' k2
      clear hb'
      go_wp2_with fail
      rw [← HD.out]
      have A0 := Lib.hid (K0.out.alloc (Nat.le_of_lt (VBox.lt k1)) (Obj.cells (vv (cutF dn M s)) 23))
      have A1 := Lib.hid (gblk_alloc (Obj.cells (vv (cutF dn M s)) 23) k1)
      have A2 : Hid (MX (w7.alloc (Obj.cells (vv (cutF dn M s)) 23)) gm dn M) := Lib.hid (gblk_alloc (Obj.cells (vv (cutF dn M s)) 23) k2)
      have A3 := Lib.hid (gblk_new w7 (Obj.cells (vv (cutF dn M s)) 23))
      clear K0 k1 k2
      generalize w7.alloc (Obj.cells (vv (cutF dn M s)) 23) = w8 at *
      generalize w7.heap.size = gc at *
      go_loopw [11] (fun i wq => ∃ j : Nat, (j : Int) ≤ dn ∧ i = .int .i64 j ∧ Below g5 w wq ∧ blk wq g5 = some (.cells (vv s) 23) ∧ MX wq gm dn M ∧ blk wq gc = some (.cells (vv (cutF dn M s)) 23)) (fun i _ => 16 - (intOf i).toNat)
      case atStart => exact ⟨0, by omega, rfl, A0.out, A1.out, A2.out, A3.out⟩
      case round =>
        obtain ⟨j, hj, rfl, k0, k1, k2, k3⟩ := hrel
        by_cases hlt : (j : Int) < dn
        · have hm := cut_most (s := s) hlt hnn.out
          have hjk : j < 16 := by omega
          have hji : (j : Int) < 16 := by omega
          have hse := cut_seen (M := M) (s := s) hlt (HR.out j hjk).1
          have c1 : wr.cell? ⟨gc, j, none⟩ = some (.int .i64 (cutF dn M s j)) := (cell_of_row wr gc j _ _ _ k3).trans (vv_get _ hjk)
          have c2 : wr.cell? ⟨g5, j, none⟩ = some (.int .i64 (s j)) := (cell_of_row wr g5 j _ _ _ k1).trans (vv_get _ hjk)
          have P0 := Lib.hid k0
          generalize hc : cutF dn M s = c at *
          generalize c j = x at *
          generalize s j = y at *
          go_wp2_with fail
          refine wp_region_held_drew (S := fun w' => (Below g5 w w' ∧ g5 ≤ w'.heap.size) ∧ blk w' g5 = some (.cells (vv s) 23) ∧ MX w' gm dn M ∧ blk w' gc = some (.cells (vv c) 23) ∧ w'.cell? ⟨gc, j, none⟩ = some (.int .i64 x) ∧ w'.cell? ⟨g5, j, none⟩ = some (.int .i64 y)) (by kernel_rfl) ⟨⟨P0.out.drew, Nat.le_of_lt (VBox.lt k1)⟩, k1, k2, k3, c1, c2⟩ (fun hHeld => ?_)
          refine wpAnyH_take (i := 0) (v := ?_) rfl (by kernel_rfl) (by kernel_rfl) (by kernel_rfl) (fun _ _ _ h => h) (Or.inl ⟨by rfl, ?_⟩) hHeld ?_
          rotate_left
          · intro w hSw; (try dsimp only at hSw); (try simp only [List.getElem_toArray, List.getElem_cons_succ, List.getElem_cons_zero]); (go_simp; try with_reducible rfl)
          try simp only [List.getElem_toArray, List.getElem_cons_succ, List.getElem_cons_zero, Act.put, List.setIfInBounds_toArray, List.set_cons_zero, List.set_cons_succ]
          refine wpAnyH_take (i := 1) (v := ?_) rfl (by kernel_rfl) (by kernel_rfl) (by kernel_rfl) (fun _ _ _ h => h) (Or.inl ⟨by rfl, ?_⟩) hHeld ?_
          rotate_left
          · intro w hSw; (try dsimp only at hSw); (try simp only [List.getElem_toArray, List.getElem_cons_succ, List.getElem_cons_zero]); (go_simp; try with_reducible rfl)
          try simp only [List.getElem_toArray, List.getElem_cons_succ, List.getElem_cons_zero, Act.put, List.setIfInBounds_toArray, List.set_cons_zero, List.set_cons_succ]
          refine wpAnyH_take (i := 2) (v := ?_) rfl (by kernel_rfl) (by kernel_rfl) (by kernel_rfl) (fun _ _ _ h => h) (Or.inl ⟨by rfl, ?_⟩) hHeld ?_
          rotate_left
          · intro w hSw; (try dsimp only at hSw); (try simp only [List.getElem_toArray, List.getElem_cons_succ, List.getElem_cons_zero]); (go_simp; try with_reducible rfl)
          try simp only [List.getElem_toArray, List.getElem_cons_succ, List.getElem_cons_zero, Act.put, List.setIfInBounds_toArray, List.set_cons_zero, List.set_cons_succ]
          refine wpAnyH_ready (rs := [3]) (by kernel_rfl) (by simp) ?_
          refine AllReadyH.cons rfl (fun K hK => ?_) AllReadyH.nil
          go_simp
          (refine Calls.mono (mrow_any gm dn j M _ hdn.2 hHeld.2.2.1) ?_; rintro e w' ⟨rfl, hb'⟩)
          refine hK.out _ _ ⟨⟨gbel hb' hHeld.1.1 hHeld.1.2, Nat.le_trans hHeld.1.2 hb'.size⟩, gblk hb' hHeld.2.1, gblk hb' hHeld.2.2.1, gblk hb' hHeld.2.2.2.1, gcell hb' hHeld.2.2.2.2.1, gcell hb' hHeld.2.2.2.2.2⟩ (fun hNew => ?_)
          clear hK K hHeld hb'
          have hHeld := hNew
          clear hNew
          try simp only [List.getElem_toArray, List.getElem_cons_succ, List.getElem_cons_zero, Act.put, List.setIfInBounds_toArray, List.set_cons_zero, List.set_cons_succ]
          refine wpAnyH_ready (rs := [4]) (by kernel_rfl) (by simp) ?_
          refine AllReadyH.cons rfl (fun K hK => ?_) AllReadyH.nil
          go_simp
          (refine Calls.mono (rmost_any _ _ _) ?_; rintro e w' ⟨rfl, hb'⟩; rw [hm])
          refine hK.out _ _ ⟨⟨gbel hb' hHeld.1.1 hHeld.1.2, Nat.le_trans hHeld.1.2 hb'.size⟩, gblk hb' hHeld.2.1, gblk hb' hHeld.2.2.1, gblk hb' hHeld.2.2.2.1, gcell hb' hHeld.2.2.2.2.1, gcell hb' hHeld.2.2.2.2.2⟩ (fun hNew => ?_)
          clear hK K hHeld hb'
          have hHeld := hNew
          clear hNew
          try simp only [List.getElem_toArray, List.getElem_cons_succ, List.getElem_cons_zero, Act.put, List.setIfInBounds_toArray, List.set_cons_zero, List.set_cons_succ]
          refine wpAnyH_take (i := 5) (v := ?_) rfl (by kernel_rfl) (by kernel_rfl) (by kernel_rfl) (fun _ _ _ h => h) (Or.inl ⟨by rfl, ?_⟩) hHeld ?_
          rotate_left
          · intro w hSw; (try dsimp only at hSw); (try simp only [List.getElem_toArray, List.getElem_cons_succ, List.getElem_cons_zero]); (go_simp; try with_reducible rfl)
          try simp only [List.getElem_toArray, List.getElem_cons_succ, List.getElem_cons_zero, Act.put, List.setIfInBounds_toArray, List.set_cons_zero, List.set_cons_succ]
          refine wpAnyH_take (i := 6) (v := ?_) rfl (by kernel_rfl) (by kernel_rfl) (by kernel_rfl) (fun _ _ _ h => h) (Or.inl ⟨by rfl, ?_⟩) hHeld ?_
          rotate_left
          · intro w hSw; (try dsimp only at hSw); (try simp only [List.getElem_toArray, List.getElem_cons_succ, List.getElem_cons_zero]); (go_simp; try with_reducible rfl)
          try simp only [List.getElem_toArray, List.getElem_cons_succ, List.getElem_cons_zero, Act.put, List.setIfInBounds_toArray, List.set_cons_zero, List.set_cons_succ]
          refine wpAnyH_take (i := 7) (v := ?_) rfl (by kernel_rfl) (by kernel_rfl) (by kernel_rfl) (fun _ _ _ h => h) (Or.inl ⟨by rfl, ?_⟩) hHeld ?_
          rotate_left
          · intro w hSw; (try dsimp only at hSw); (try simp only [List.getElem_toArray, List.getElem_cons_succ, List.getElem_cons_zero]); (go_simp; try with_reducible rfl)
          try simp only [List.getElem_toArray, List.getElem_cons_succ, List.getElem_cons_zero, Act.put, List.setIfInBounds_toArray, List.set_cons_zero, List.set_cons_succ]
          refine wpAnyH_take (i := 8) (v := ?_) rfl (by kernel_rfl) (by kernel_rfl) (by kernel_rfl) (fun _ _ _ h => h) (Or.inl ⟨by rfl, ?_⟩) hHeld ?_
          rotate_left
          · intro w hSw; (try dsimp only at hSw); (try simp only [List.getElem_toArray, List.getElem_cons_succ, List.getElem_cons_zero]); (go_simp; try with_reducible rfl)
          try simp only [List.getElem_toArray, List.getElem_cons_succ, List.getElem_cons_zero, Act.put, List.setIfInBounds_toArray, List.set_cons_zero, List.set_cons_succ]
          refine wpAnyH_take (i := 9) (v := ?_) rfl (by kernel_rfl) (by kernel_rfl) (by kernel_rfl) (fun _ _ _ h => h) (Or.inl ⟨by rfl, ?_⟩) hHeld ?_
          rotate_left
          · intro w hSw; (try dsimp only at hSw); (try simp only [List.getElem_toArray, List.getElem_cons_succ, List.getElem_cons_zero]); (go_simp; try with_reducible rfl)
          try simp only [List.getElem_toArray, List.getElem_cons_succ, List.getElem_cons_zero, Act.put, List.setIfInBounds_toArray, List.set_cons_zero, List.set_cons_succ]
          refine wpAnyH_take (i := 10) (v := ?_) rfl (by kernel_rfl) (by kernel_rfl) (by kernel_rfl) (fun _ _ _ h => h) (Or.inl ⟨by rfl, ?_⟩) hHeld ?_
          rotate_left
          · intro w hSw; (try dsimp only at hSw); (try simp only [List.getElem_toArray, List.getElem_cons_succ, List.getElem_cons_zero]); (go_simp; try with_reducible rfl)
          try simp only [List.getElem_toArray, List.getElem_cons_succ, List.getElem_cons_zero, Act.put, List.setIfInBounds_toArray, List.set_cons_zero, List.set_cons_succ]
          refine wpAnyH_take (i := 11) (v := ?_) rfl (by kernel_rfl) (by kernel_rfl) (by kernel_rfl) (fun _ _ _ h => h) (Or.inl ⟨by rfl, ?_⟩) hHeld ?_
          rotate_left
          · intro w hSw; (try dsimp only at hSw); (try simp only [List.getElem_toArray, List.getElem_cons_succ, List.getElem_cons_zero]); (go_simp; try with_reducible rfl)
          try simp only [List.getElem_toArray, List.getElem_cons_succ, List.getElem_cons_zero, Act.put, List.setIfInBounds_toArray, List.set_cons_zero, List.set_cons_succ]
          refine wpAnyH_take (i := 12) (v := ?_) rfl (by kernel_rfl) (by kernel_rfl) (by kernel_rfl) (fun _ _ _ h => h) (Or.inl ⟨by rfl, ?_⟩) hHeld ?_
          rotate_left
          · intro w hSw; (try dsimp only at hSw); (try simp only [List.getElem_toArray, List.getElem_cons_succ, List.getElem_cons_zero]); (go_simp; try with_reducible rfl)
          try simp only [List.getElem_toArray, List.getElem_cons_succ, List.getElem_cons_zero, Act.put, List.setIfInBounds_toArray, List.set_cons_zero, List.set_cons_succ]
          refine wpAnyH_take (i := 13) (v := ?_) rfl (by kernel_rfl) (by kernel_rfl) (by kernel_rfl) (fun _ _ _ h => h) (Or.inl ⟨by rfl, ?_⟩) hHeld ?_
          rotate_left
          · intro w hSw; (try dsimp only at hSw); (try simp only [List.getElem_toArray, List.getElem_cons_succ, List.getElem_cons_zero]); (go_simp; try with_reducible rfl)
          try simp only [List.getElem_toArray, List.getElem_cons_succ, List.getElem_cons_zero, Act.put, List.setIfInBounds_toArray, List.set_cons_zero, List.set_cons_succ]
          refine wpAnyH_take (i := 14) (v := ?_) rfl (by kernel_rfl) (by kernel_rfl) (by kernel_rfl) (fun _ _ _ h => h) (Or.inl ⟨by rfl, ?_⟩) hHeld ?_
          rotate_left
          · intro w hSw; (try dsimp only at hSw); (try simp only [List.getElem_toArray, List.getElem_cons_succ, List.getElem_cons_zero]); (go_simp; try with_reducible rfl)
          try simp only [List.getElem_toArray, List.getElem_cons_succ, List.getElem_cons_zero, Act.put, List.setIfInBounds_toArray, List.set_cons_zero, List.set_cons_succ]
          refine wpAnyH_done (by kernel_rfl) ?_ _
          have Q := Lib.hid hHeld
          clear hHeld P0 k0 k1 k2 k3 c1 c2
          go_wp2
          go_roundw
          case rel => exact ⟨j + 1, by omega, by go_num, Q.out.1.1, Q.out.2.1, Q.out.2.2.1, Q.out.2.2.2.1⟩
          case measure => simp [intOf]; omega
        · have P0 := Lib.hid k0
          clear k0 k1 k2 k3
          go_wp2
          go_ret
          exact ⟨rfl, P0.out⟩

theorem walk (n : Int) (a : Option Addr) (len cap : Nat) (c2 : List Value) (w : World) (w0 : (Lit.int .i64 n).wf = true) (hl : len ≤ cap) (hm : cap ≤ maxLen) (hr : RowsIn [.int .i64, .int .i64, .int .i64, .int .i64, .int .i64, .int .i64, .int .i64, .int .i64, .int .i64, .int .i64, .int .i64, .int .i64, .int .i64, .int .i64, .int .i64, .int .i64, .int .i64] w a len)
    (h2 : LeavesOk [.int .i64, .int .i64, .int .i64, .int .i64, .int .i64, .int .i64, .int .i64, .int .i64, .int .i64, .int .i64, .int .i64, .int .i64, .int .i64, .int .i64, .int .i64, .int .i64] c2) :
    Calls Try.prog 11 #[.int .i64 n, .slice a len cap, .agg c2.toArray] w fun e w' => e = .returned (.bool true) ∧ Below w.heap.size w w' := by
  obtain ⟨L, rfl, hL, _⟩ := ops_of hl hm hr
  obtain ⟨s, es, _⟩ := vv_of h2
  rw [es]
  exact walk_op n a cap L s w hL

end Go.Proofs.Ythjeginhoddmiaa.matrixBelow
