/- The walk of polyphonylaw19.MatrixPlays: it returns true, and what was there is as it was. No conditions. -/
import Derived.Test.YthjeginhoddmiaaMxAwake
import Derived.Test.YthjeginhoddmiaaMxOp
import Derived.Test.YthjeginhoddmiaaMxPlain
import Derived.Test.YthjeginhoddmiaaRxCut
namespace Go.Proofs.Ythjeginhoddmiaa.matrixPlays
open Go.RowKit
attribute [local go_sem] bmax2_int bmin2_int bmax_two bmin_two blk_alloc blk_setRow blk_setCell blk_drew blk_drewN alloc_setRow cell_setRow_ne drew_setRow drewN_setRow fold_z0 vv_size vv_get vv_set
attribute [local go_sem ↓] exec_load_vv exec_store_vv exec_index_vv exec_eql_vv exec_neq_vv
attribute [local go_sem] storeVV_at indexVV_at eqVV_eql eqVV_neq ne_r2 ne_l2 ne_r3 ne_l3 ne_r4 ne_l4 ne_r5 ne_l5 ne_r6 ne_l6 ne_r7 ne_l7 ne_r8 ne_l8
set_option linter.unusedVariables false
set_option linter.unusedSimpArgs false
attribute [local go_sem] loadVV_rx loadVV_r0 storeVV_rx rowR_rx rowR_rx0 rowR_vv putR_rx rxA_size makeVVs_int
attribute [local go_sem ↓] exec_make_vvs
attribute [local go_sem] loadVV_op rowN_drew

theorem gbel {W W' w0 : World} {B : Nat} (h : Below W.heap.size W W') (hb : Below B w0 W) (hB : B ≤ W.heap.size) : Below B w0 W' := hb.trans (h.mono hB)
set_option maxRecDepth 100000 in
set_option maxHeartbeats 4000000 in
theorem walk_op (n : Int) (a : Option Addr) (cap : Nat) (L : List (Int × (Nat → Int))) (s : Nat → Int) (w : World) (hL : L = [] ∨ ∃ b o, a = some ⟨b, o, none⟩ ∧ b < w.heap.size ∧ OpRows w b o L) :
    Calls Try.prog 8 #[.int .i64 n, .slice a L.length cap, .agg (vv s)] w fun e w' => e = .returned (.bool true) ∧ Below w.heap.size w w' := by
  have HL := Lib.hid hL
  clear hL
  go_enter Try.func8, Try.ntmps8
  go_wp2_with fail
  have k1 := gblk_new w (Obj.cells (vv s) 23)
  have k0 := (Below.refl w.heap.size w).alloc (Nat.le_refl _) (Obj.cells (vv s) 23)
  generalize w.alloc (Obj.cells (vv s) 23) = w1 at *
  generalize hg5 : w.heap.size = g5 at *
  refine Calls.mono (awake19_any _) ?_
  rintro e w2 ⟨rfl, hb'⟩
  replace k0 := gbel hb' k0 (by have := k0.size; omega)
  replace k1 := gblk hb' k1
  clear hb'
  have K0 := Lib.hid k0
  clear k0
  by_cases hlen : (L.length : Int) > 300
  · go_wp2_with fail
    refine Calls.mono (awake19_any _) ?_
    rintro e w3 ⟨rfl, hb'⟩
    have HB3 := Lib.hid (gbel hb' K0.out (Nat.le_of_lt (VBox.lt k1)))
    clear hb'
    go_wp2
    go_ret
    exact ⟨rfl, HB3.out.mono (Nat.le_of_eq hg5)⟩
  go_wp2_with fail
  refine Calls.mono (mnew_any n w2) ?_
  rintro e w4 ⟨rfl, hb', hm⟩
  replace K0 := Lib.hid (gbel hb' K0.out (Nat.le_of_lt (VBox.lt k1)))
  have hlt5 : g5 < w2.heap.size := VBox.lt k1
  have K1 := Lib.hid (gblk hb' k1)
  have k2 : MX w4 w2.heap.size (dimI n) (runM (dimI n) zM (L.take 0)) := hm
  have hltm : w2.heap.size < w4.heap.size := (Array.getElem?_eq_some_iff.1 (show w4.heap[w2.heap.size]? = _ from k2)).1
  clear hb' hm k1
  generalize hgm : w2.heap.size = gm at *
  go_wp2_with fail
  refine Calls.mono (rnew_any n w4) ?_
  rintro e w5 ⟨rfl, hb', hm⟩
  replace K0 := Lib.hid (gbel hb' K0.out (by omega))
  replace K1 := Lib.hid (gblk hb' K1.out)
  have K2 := Lib.hid (gblk hb' k2)
  clear hb' k2
  have hdn := dimI_bd n
  have K3 : Hid (RX w5 (w4.heap.size + 1) w4.heap.size (dimI n).toNat (runM (dimI n) zM (L.take 0))) := Lib.hid hm
  clear hm
  generalize dimI n = dn at *
  obtain ⟨m, rfl⟩ := Int.eq_ofNat_of_zero_le (show 0 ≤ dn by omega)
  rw [Int.toNat_natCast] at K3
  replace K2 : Hid (MX w5 gm m (runM m zM (L.take 0))) := K2
  generalize hgr : w4.heap.size = gr at *
  obtain ⟨gp, hgp⟩ : ∃ gp, gp = gr + 1 := ⟨_, rfl⟩
  rw [← hgp] at K3
  have hm0 : 0 < m := by omega
  have hm1 : m ≤ 16 := by omega
  have hgp5 : g5 < gp := by omega
  have hgr5 : g5 < gr := by omega
  have hgpm : gp ≠ gm := by omega
  have hgrm : gr ≠ gm := by omega
  have hgmr : gm ≠ gr := by omega
  clear hdn
  rw [← hgp]
  clear hgp
  go_wp2_with fail
  go_loopw [28] (fun i wr => ∃ k : Nat, k ≤ L.length ∧ i = .int .i64 k ∧ (Below g5 w wr ∧ g5 ≤ wr.heap.size) ∧ blk wr g5 = some (.cells (vv s) 23) ∧ MX wr gm m (runM m zM (L.take k)) ∧ RX wr gp gr m (runM m zM (L.take k))) (fun i _ => L.length - (intOf i).toNat)
  case atStart => exact ⟨0, by omega, rfl, ⟨K0.out, Nat.le_of_lt (VBox.lt K1.out)⟩, K1.out, K2.out, K3.out⟩
  case round =>
    obtain ⟨k, hk, rfl, ⟨k0, hs0⟩, k1, k2, k3⟩ := hrel
    have P0 := Lib.hid k0
    clear k0
    by_cases hlt : k < L.length
    · rcases HL.out with h0 | ⟨b, o, rfl, hbw, hrows⟩
      · rw [h0] at hlt; simp at hlt
      have hrk := (hrows.keep (P0.out.mono (Nat.le_of_eq hg5))) k hlt
      have E := Lib.hid (runM_succ m zM L hlt)
      obtain ⟨c1, c2⟩ := hrk
      clear hrows
      generalize L[k].1 = r at *
      generalize L[k].2 = v at *
      generalize runM m zM (L.take k) = M at *
      have hKeep : Hid (∀ (W W' : World) (q : Nat), g5 < q → W.grownBy W' (some q) → ((Below g5 w W ∧ g5 ≤ W.heap.size) ∧ blk W g5 = some (.cells (vv s) 23) ∧ W.cell? ⟨b, o + k * 17, none⟩ = some (.int .i64 r) ∧ rowN 16 W b (o + k * 17 + 1) = some (vv v)) → ((Below g5 w W' ∧ g5 ≤ W'.heap.size) ∧ blk W' g5 = some (.cells (vv s) 23) ∧ W'.cell? ⟨b, o + k * 17, none⟩ = some (.int .i64 r) ∧ rowN 16 W' b (o + k * 17 + 1) = some (vv v))) := Lib.hid fun W W' q hq hG hH => by
        have hbq : b ≠ q := by omega
        exact ⟨⟨grown_new hG hH.1.2 (Nat.le_of_lt hq) hH.1.1, Nat.le_trans hH.1.2 hG.size⟩, grown_blk hG (Nat.ne_of_lt hq) hH.2.1, hG.cell hH.2.2.1 (fun e => hbq (by simpa using e)), rowN_grown hG hbq hH.2.2.2⟩
      have hs1 := same16_refl (stabF m (seeM m M r v))
      have hs2 := same16_refl (cutF m (seeM m M r v) s)
      have Q1 := Lib.hid k1
      have hMx : MX wr.drew gm m M := k2
      have hRx : RX wr.drew gp gr m M := k3
      clear k2 k3
      go_wp2_with fail
      refine wp_region_held_drew (S := fun w' => (Below g5 w w' ∧ g5 ≤ w'.heap.size) ∧ blk w' g5 = some (.cells (vv s) 23) ∧ w'.cell? ⟨b, o + k * 17, none⟩ = some (.int .i64 r) ∧ rowN 16 w' b (o + k * 17 + 1) = some (vv v)) (by kernel_rfl) ⟨⟨P0.out.drew, hs0⟩, k1, c1, c2⟩ (fun hHeld => ?_)
      refine wpAnyH_take (i := 0) (v := ?_) rfl (by kernel_rfl) (by kernel_rfl) (by kernel_rfl) (fun _ _ _ h => h) (Or.inl ⟨by rfl, ?_⟩) hHeld ?_
      rotate_left
      · intro w hSw; (try dsimp only at hSw); (try simp only [List.getElem_toArray, List.getElem_cons_succ, List.getElem_cons_zero]); (go_simp; try with_reducible rfl)
      try simp only [List.getElem_toArray, List.getElem_cons_succ, List.getElem_cons_zero, Act.put, List.setIfInBounds_toArray, List.set_cons_zero, List.set_cons_succ]
      refine wpAnyH_take (i := 1) (v := ?_) rfl (by kernel_rfl) (by kernel_rfl) (by kernel_rfl) (fun _ _ _ h => h) (Or.inl ⟨by rfl, ?_⟩) hHeld ?_
      rotate_left
      · intro w hSw; (try dsimp only at hSw); (try simp only [List.getElem_toArray, List.getElem_cons_succ, List.getElem_cons_zero]); (go_simp; try with_reducible rfl)
      try simp only [List.getElem_toArray, List.getElem_cons_succ, List.getElem_cons_zero, Act.put, List.setIfInBounds_toArray, List.set_cons_zero, List.set_cons_succ]
      refine wpAnyH_take (i := 2) (v := ?_) rfl (by kernel_rfl) (by kernel_rfl) (by kernel_rfl) (fun _ _ _ h => h) (Or.inl ⟨by rfl, ?_⟩) hHeld ?_
      rotate_left
      · intro w hSw; (try dsimp only at hSw); (try simp only [List.getElem_toArray, List.getElem_cons_succ, List.getElem_cons_zero]); (go_simp; try with_reducible rfl)
      try simp only [List.getElem_toArray, List.getElem_cons_succ, List.getElem_cons_zero, Act.put, List.setIfInBounds_toArray, List.set_cons_zero, List.set_cons_succ]
      refine wpAnyH_take (i := 3) (v := ?_) rfl (by kernel_rfl) (by kernel_rfl) (by kernel_rfl) (fun _ _ _ h => h) (Or.inl ⟨by rfl, ?_⟩) hHeld ?_
      rotate_left
      · intro w hSw; (try dsimp only at hSw); (try simp only [List.getElem_toArray, List.getElem_cons_succ, List.getElem_cons_zero]); (go_simp; try with_reducible rfl)
      try simp only [List.getElem_toArray, List.getElem_cons_succ, List.getElem_cons_zero, Act.put, List.setIfInBounds_toArray, List.set_cons_zero, List.set_cons_succ]
      refine wpAnyH_take (i := 4) (v := ?_) rfl (by kernel_rfl) (by kernel_rfl) (by kernel_rfl) (fun _ _ _ h => h) (Or.inl ⟨by rfl, ?_⟩) hHeld ?_
      rotate_left
      · intro w hSw; (try dsimp only at hSw); (try simp only [List.getElem_toArray, List.getElem_cons_succ, List.getElem_cons_zero]); (go_simp; try with_reducible rfl)
      try simp only [List.getElem_toArray, List.getElem_cons_succ, List.getElem_cons_zero, Act.put, List.setIfInBounds_toArray, List.set_cons_zero, List.set_cons_succ]
      refine wpAnyH_take (i := 5) (v := ?_) rfl (by kernel_rfl) (by kernel_rfl) (by kernel_rfl) (fun _ _ _ h => h) (Or.inl ⟨by rfl, ?_⟩) hHeld ?_
      rotate_left
      · intro w hSw; (try dsimp only at hSw); (try simp only [List.getElem_toArray, List.getElem_cons_succ, List.getElem_cons_zero]); (go_simp; try with_reducible rfl)
      try simp only [List.getElem_toArray, List.getElem_cons_succ, List.getElem_cons_zero, Act.put, List.setIfInBounds_toArray, List.set_cons_zero, List.set_cons_succ]
      refine wpAnyH_take (i := 6) (v := ?_) rfl (by kernel_rfl) (by kernel_rfl) (by kernel_rfl) (fun _ _ _ h => h) (Or.inl ⟨by rfl, ?_⟩) hHeld ?_
      rotate_left
      · intro w hSw; (try dsimp only at hSw); (try simp only [List.getElem_toArray, List.getElem_cons_succ, List.getElem_cons_zero]); (go_simp; try with_reducible rfl)
      try simp only [List.getElem_toArray, List.getElem_cons_succ, List.getElem_cons_zero, Act.put, List.setIfInBounds_toArray, List.set_cons_zero, List.set_cons_succ]
      refine wpAnyH_take (i := 7) (v := ?_) rfl (by kernel_rfl) (by kernel_rfl) (by kernel_rfl) (fun _ _ _ h => h) (Or.inl ⟨by rfl, ?_⟩) hHeld ?_
      rotate_left
      · intro w hSw; (try dsimp only at hSw); (try simp only [List.getElem_toArray, List.getElem_cons_succ, List.getElem_cons_zero]); (go_simp; try with_reducible rfl)
      try simp only [List.getElem_toArray, List.getElem_cons_succ, List.getElem_cons_zero, Act.put, List.setIfInBounds_toArray, List.set_cons_zero, List.set_cons_succ]
      refine wpAnyH_take (i := 8) (v := ?_) rfl (by kernel_rfl) (by kernel_rfl) (by kernel_rfl) (fun _ _ _ h => h) (Or.inl ⟨by rfl, ?_⟩) hHeld ?_
      rotate_left
      · intro w hSw; (try dsimp only at hSw); (try simp only [List.getElem_toArray, List.getElem_cons_succ, List.getElem_cons_zero]); (go_simp; try with_reducible rfl)
      try simp only [List.getElem_toArray, List.getElem_cons_succ, List.getElem_cons_zero, Act.put, List.setIfInBounds_toArray, List.set_cons_zero, List.set_cons_succ]
      refine wpAnyH_take (i := 9) (v := ?_) rfl (by kernel_rfl) (by kernel_rfl) (by kernel_rfl) (fun _ _ _ h => h) (Or.inl ⟨by rfl, ?_⟩) hHeld ?_
      rotate_left
      · intro w hSw; (try dsimp only at hSw); (try simp only [List.getElem_toArray, List.getElem_cons_succ, List.getElem_cons_zero]); (go_simp; try with_reducible rfl)
      try simp only [List.getElem_toArray, List.getElem_cons_succ, List.getElem_cons_zero, Act.put, List.setIfInBounds_toArray, List.set_cons_zero, List.set_cons_succ]
      refine wpAnyH_take (i := 10) (v := ?_) rfl (by kernel_rfl) (by kernel_rfl) (by kernel_rfl) (fun _ _ _ h => h) (Or.inl ⟨by rfl, ?_⟩) hHeld ?_
      rotate_left
      · intro w hSw; (try dsimp only at hSw); (try simp only [List.getElem_toArray, List.getElem_cons_succ, List.getElem_cons_zero]); (go_simp; try with_reducible rfl)
      try simp only [List.getElem_toArray, List.getElem_cons_succ, List.getElem_cons_zero, Act.put, List.setIfInBounds_toArray, List.set_cons_zero, List.set_cons_succ]
      refine wpAnyH_take (i := 12) (v := ?_) rfl (by kernel_rfl) (by kernel_rfl) (by kernel_rfl) (fun _ _ _ h => h) (Or.inl ⟨by rfl, ?_⟩) hHeld ?_
      rotate_left
      · intro w hSw; (try dsimp only at hSw); (try simp only [List.getElem_toArray, List.getElem_cons_succ, List.getElem_cons_zero]); (go_simp; try with_reducible rfl)
      try simp only [List.getElem_toArray, List.getElem_cons_succ, List.getElem_cons_zero, Act.put, List.setIfInBounds_toArray, List.set_cons_zero, List.set_cons_succ]
      refine wpAnyH_take (i := 13) (v := ?_) rfl (by kernel_rfl) (by kernel_rfl) (by kernel_rfl) (fun _ _ _ h => h) (Or.inl ⟨by rfl, ?_⟩) hHeld ?_
      rotate_left
      · intro w hSw; (try dsimp only at hSw); (try simp only [List.getElem_toArray, List.getElem_cons_succ, List.getElem_cons_zero]); (go_simp; try with_reducible rfl)
      try simp only [List.getElem_toArray, List.getElem_cons_succ, List.getElem_cons_zero, Act.put, List.setIfInBounds_toArray, List.set_cons_zero, List.set_cons_succ]
      refine wpAnyH_take (i := 14) (v := ?_) rfl (by kernel_rfl) (by kernel_rfl) (by kernel_rfl) (fun _ _ _ h => h) (Or.inl ⟨by rfl, ?_⟩) hHeld ?_
      rotate_left
      · intro w hSw; (try dsimp only at hSw); (try simp only [List.getElem_toArray, List.getElem_cons_succ, List.getElem_cons_zero]); (go_simp; try with_reducible rfl)
      try simp only [List.getElem_toArray, List.getElem_cons_succ, List.getElem_cons_zero, Act.put, List.setIfInBounds_toArray, List.set_cons_zero, List.set_cons_succ]
      refine wpAnyH_take (i := 15) (v := ?_) rfl (by kernel_rfl) (by kernel_rfl) (by kernel_rfl) (fun _ _ _ h => h) (Or.inl ⟨by rfl, ?_⟩) hHeld ?_
      rotate_left
      · intro w hSw; (try dsimp only at hSw); (try simp only [List.getElem_toArray, List.getElem_cons_succ, List.getElem_cons_zero]); (go_simp; try with_reducible rfl)
      try simp only [List.getElem_toArray, List.getElem_cons_succ, List.getElem_cons_zero, Act.put, List.setIfInBounds_toArray, List.set_cons_zero, List.set_cons_succ]
      refine wpAnyH_take (i := 16) (v := ?_) rfl (by kernel_rfl) (by kernel_rfl) (by kernel_rfl) (fun _ _ _ h => h) (Or.inl ⟨by rfl, ?_⟩) hHeld ?_
      rotate_left
      · intro w hSw; (try dsimp only at hSw); (try simp only [List.getElem_toArray, List.getElem_cons_succ, List.getElem_cons_zero]); (go_simp; try with_reducible rfl)
      try simp only [List.getElem_toArray, List.getElem_cons_succ, List.getElem_cons_zero, Act.put, List.setIfInBounds_toArray, List.set_cons_zero, List.set_cons_succ]
      refine wpAnyH_take (i := 17) (v := ?_) rfl (by kernel_rfl) (by kernel_rfl) (by kernel_rfl) (fun _ _ _ h => h) (Or.inl ⟨by rfl, ?_⟩) hHeld ?_
      rotate_left
      · intro w hSw; (try dsimp only at hSw); (try simp only [List.getElem_toArray, List.getElem_cons_succ, List.getElem_cons_zero]); (go_simp; try with_reducible rfl)
      try simp only [List.getElem_toArray, List.getElem_cons_succ, List.getElem_cons_zero, Act.put, List.setIfInBounds_toArray, List.set_cons_zero, List.set_cons_succ]
      refine wpAnyH_take (i := 18) (v := ?_) rfl (by kernel_rfl) (by kernel_rfl) (by kernel_rfl) (fun _ _ _ h => h) (Or.inl ⟨by rfl, ?_⟩) hHeld ?_
      rotate_left
      · intro w hSw; (try dsimp only at hSw); (try simp only [List.getElem_toArray, List.getElem_cons_succ, List.getElem_cons_zero]); (go_simp; try with_reducible rfl)
      try simp only [List.getElem_toArray, List.getElem_cons_succ, List.getElem_cons_zero, Act.put, List.setIfInBounds_toArray, List.set_cons_zero, List.set_cons_succ]
      refine wpAnyH_take (i := 19) (v := ?_) rfl (by kernel_rfl) (by kernel_rfl) (by kernel_rfl) (fun _ _ _ h => h) (Or.inl ⟨by rfl, ?_⟩) hHeld ?_
      rotate_left
      · intro w hSw; (try dsimp only at hSw); (try simp only [List.getElem_toArray, List.getElem_cons_succ, List.getElem_cons_zero]); (go_simp; try with_reducible rfl)
      try simp only [List.getElem_toArray, List.getElem_cons_succ, List.getElem_cons_zero, Act.put, List.setIfInBounds_toArray, List.set_cons_zero, List.set_cons_succ]
      refine wpAnyH_take (i := 20) (v := ?_) rfl (by kernel_rfl) (by kernel_rfl) (by kernel_rfl) (fun _ _ _ h => h) (Or.inl ⟨by rfl, ?_⟩) hHeld ?_
      rotate_left
      · intro w hSw; (try dsimp only at hSw); (try simp only [List.getElem_toArray, List.getElem_cons_succ, List.getElem_cons_zero]); (go_simp; try with_reducible rfl)
      try simp only [List.getElem_toArray, List.getElem_cons_succ, List.getElem_cons_zero, Act.put, List.setIfInBounds_toArray, List.set_cons_zero, List.set_cons_succ]
      refine wpAnyH_take (i := 21) (v := ?_) rfl (by kernel_rfl) (by kernel_rfl) (by kernel_rfl) (fun _ _ _ h => h) (Or.inl ⟨by rfl, ?_⟩) hHeld ?_
      rotate_left
      · intro w hSw; (try dsimp only at hSw); (try simp only [List.getElem_toArray, List.getElem_cons_succ, List.getElem_cons_zero]); (go_simp; try with_reducible rfl)
      try simp only [List.getElem_toArray, List.getElem_cons_succ, List.getElem_cons_zero, Act.put, List.setIfInBounds_toArray, List.set_cons_zero, List.set_cons_succ]
      refine wpAnyH_take (i := 22) (v := ?_) rfl (by kernel_rfl) (by kernel_rfl) (by kernel_rfl) (fun _ _ _ h => h) (Or.inl ⟨by rfl, ?_⟩) hHeld ?_
      rotate_left
      · intro w hSw; (try dsimp only at hSw); (try simp only [List.getElem_toArray, List.getElem_cons_succ, List.getElem_cons_zero]); (go_simp; try with_reducible rfl)
      try simp only [List.getElem_toArray, List.getElem_cons_succ, List.getElem_cons_zero, Act.put, List.setIfInBounds_toArray, List.set_cons_zero, List.set_cons_succ]
      refine wpAnyH_ready (rs := [11]) (by kernel_rfl) (by simp) ?_
      refine AllReadyH.cons rfl (fun K hK => ?_) AllReadyH.nil
      go_simp
      (refine Calls.mono (msee_any gm m r v M _ (by omega) hMx) ?_; rintro x w6 ⟨rfl, hm, hb'⟩; have hS := hKeep.out _ _ gm (by omega) hb' hHeld; replace hRx := hRx.grown hb' hgpm hgrm; replace hMx := hm; clear hm)
      refine hK.out _ _ hS (fun hNew => ?_)
      clear hK K hHeld hb'
      have hHeld := hNew
      clear hNew
      try simp only [List.getElem_toArray, List.getElem_cons_succ, List.getElem_cons_zero, Act.put, List.setIfInBounds_toArray, List.set_cons_zero, List.set_cons_succ]
      refine wpAnyH_ready (rs := [23]) (by kernel_rfl) (by simp) ?_
      refine AllReadyH.cons rfl (fun K hK => ?_) AllReadyH.nil
      go_simp
      (refine Calls.mono (rsee_any gp gr m r v M _ hm0 hRx) ?_; rintro x w6 ⟨rfl, hm, hb'⟩; have hS := hKeep.out _ _ gr (by omega) hb' hHeld; replace hMx : MX w6 gm m _ := grown_blk hb' hgmr hMx; replace hRx := hm; clear hm)
      refine hK.out _ _ hS (fun hNew => ?_)
      clear hK K hHeld hb'
      have hHeld := hNew
      clear hNew
      try simp only [List.getElem_toArray, List.getElem_cons_succ, List.getElem_cons_zero, Act.put, List.setIfInBounds_toArray, List.set_cons_zero, List.set_cons_succ]
      refine wpAnyH_take (i := 24) (v := ?_) rfl (by kernel_rfl) (by kernel_rfl) (by kernel_rfl) (fun _ _ _ h => h) (Or.inl ⟨by rfl, ?_⟩) hHeld ?_
      rotate_left
      · intro w hSw; (try dsimp only at hSw); (try simp only [List.getElem_toArray, List.getElem_cons_succ, List.getElem_cons_zero]); (go_simp; try with_reducible rfl)
      try simp only [List.getElem_toArray, List.getElem_cons_succ, List.getElem_cons_zero, Act.put, List.setIfInBounds_toArray, List.set_cons_zero, List.set_cons_succ]
      refine wpAnyH_take (i := 25) (v := ?_) rfl (by kernel_rfl) (by kernel_rfl) (by kernel_rfl) (fun _ _ _ h => h) (Or.inl ⟨by rfl, ?_⟩) hHeld ?_
      rotate_left
      · intro w hSw; (try dsimp only at hSw); (try simp only [List.getElem_toArray, List.getElem_cons_succ, List.getElem_cons_zero]); (go_simp; try with_reducible rfl)
      try simp only [List.getElem_toArray, List.getElem_cons_succ, List.getElem_cons_zero, Act.put, List.setIfInBounds_toArray, List.set_cons_zero, List.set_cons_succ]
      refine wpAnyH_take (i := 26) (v := ?_) rfl (by kernel_rfl) (by kernel_rfl) (by kernel_rfl) (fun _ _ _ h => h) (Or.inl ⟨by rfl, ?_⟩) hHeld ?_
      rotate_left
      · intro w hSw; (try dsimp only at hSw); (try simp only [List.getElem_toArray, List.getElem_cons_succ, List.getElem_cons_zero]); (go_simp; try with_reducible rfl)
      try simp only [List.getElem_toArray, List.getElem_cons_succ, List.getElem_cons_zero, Act.put, List.setIfInBounds_toArray, List.set_cons_zero, List.set_cons_succ]
      refine wpAnyH_take (i := 28) (v := ?_) rfl (by kernel_rfl) (by kernel_rfl) (by kernel_rfl) (fun _ _ _ h => h) (Or.inl ⟨by rfl, ?_⟩) hHeld ?_
      rotate_left
      · intro w hSw; (try dsimp only at hSw); (try simp only [List.getElem_toArray, List.getElem_cons_succ, List.getElem_cons_zero]); (go_simp; try with_reducible rfl)
      try simp only [List.getElem_toArray, List.getElem_cons_succ, List.getElem_cons_zero, Act.put, List.setIfInBounds_toArray, List.set_cons_zero, List.set_cons_succ]
      refine wpAnyH_ready (rs := [27]) (by kernel_rfl) (by simp) ?_
      refine AllReadyH.cons rfl (fun K hK => ?_) AllReadyH.nil
      go_simp
      (refine Calls.mono (mstable_any gm m _ _ (by omega) hMx) ?_; rintro x w6 ⟨rfl, hb'⟩; have hS := hKeep.out _ _ gm (by omega) (below_grown hb') hHeld; replace hMx : MX w6 gm m _ := gblk hb' hMx; replace hRx := hRx.keep hb')
      refine hK.out _ _ hS (fun hNew => ?_)
      clear hK K hHeld hb'
      have hHeld := hNew
      clear hNew
      try simp only [List.getElem_toArray, List.getElem_cons_succ, List.getElem_cons_zero, Act.put, List.setIfInBounds_toArray, List.set_cons_zero, List.set_cons_succ]
      refine wpAnyH_ready (rs := [29]) (by kernel_rfl) (by simp) ?_
      refine AllReadyH.cons rfl (fun K hK => ?_) AllReadyH.nil
      go_simp
      (refine Calls.mono (rstable_any gp gr m _ _ (by omega) hRx) ?_; rintro x w6 ⟨rfl, hb'⟩; have hS := hKeep.out _ _ gm (by omega) (below_grown hb') hHeld; replace hMx : MX w6 gm m _ := gblk hb' hMx; replace hRx := hRx.keep hb')
      refine hK.out _ _ hS (fun hNew => ?_)
      clear hK K hHeld hb'
      have hHeld := hNew
      clear hNew
      try simp only [List.getElem_toArray, List.getElem_cons_succ, List.getElem_cons_zero, Act.put, List.setIfInBounds_toArray, List.set_cons_zero, List.set_cons_succ]
      refine wpAnyH_take (i := 30) (v := ?_) rfl (by kernel_rfl) (by kernel_rfl) (by kernel_rfl) (fun _ _ _ h => h) (Or.inl ⟨by rfl, ?_⟩) hHeld ?_
      rotate_left
      · intro w hSw; (try dsimp only at hSw); (try simp only [List.getElem_toArray, List.getElem_cons_succ, List.getElem_cons_zero]); (go_simp; try with_reducible rfl)
      try simp only [List.getElem_toArray, List.getElem_cons_succ, List.getElem_cons_zero, Act.put, List.setIfInBounds_toArray, List.set_cons_zero, List.set_cons_succ]
      refine wpAnyH_take (i := 31) (v := ?_) rfl (by kernel_rfl) (by kernel_rfl) (by kernel_rfl) (fun _ _ _ h => h) (Or.inl ⟨by rfl, ?_⟩) hHeld ?_
      rotate_left
      · intro w hSw; (try dsimp only at hSw); (try simp only [List.getElem_toArray, List.getElem_cons_succ, List.getElem_cons_zero]); (go_simp; try with_reducible rfl)
      try simp only [List.getElem_toArray, List.getElem_cons_succ, List.getElem_cons_zero, Act.put, List.setIfInBounds_toArray, List.set_cons_zero, List.set_cons_succ]
      refine wpAnyH_take (i := 32) (v := ?_) rfl (by kernel_rfl) (by kernel_rfl) (by kernel_rfl) (fun _ _ _ h => h) (Or.inl ⟨by rfl, ?_⟩) hHeld ?_
      rotate_left
      · intro w hSw; (try dsimp only at hSw); (try simp only [List.getElem_toArray, List.getElem_cons_succ, List.getElem_cons_zero]); (go_simp; try with_reducible rfl)
      try simp only [List.getElem_toArray, List.getElem_cons_succ, List.getElem_cons_zero, Act.put, List.setIfInBounds_toArray, List.set_cons_zero, List.set_cons_succ]
      refine wpAnyH_take (i := 33) (v := ?_) rfl (by kernel_rfl) (by kernel_rfl) (by kernel_rfl) (fun _ _ _ h => h) (Or.inl ⟨by rfl, ?_⟩) hHeld ?_
      rotate_left
      · intro w hSw; (try dsimp only at hSw); (try simp only [List.getElem_toArray, List.getElem_cons_succ, List.getElem_cons_zero]); (go_simp; try with_reducible rfl)
      try simp only [List.getElem_toArray, List.getElem_cons_succ, List.getElem_cons_zero, Act.put, List.setIfInBounds_toArray, List.set_cons_zero, List.set_cons_succ]
      refine wpAnyH_take (i := 34) (v := ?_) rfl (by kernel_rfl) (by kernel_rfl) (by kernel_rfl) (fun _ _ _ h => h) (Or.inl ⟨by rfl, ?_⟩) hHeld ?_
      rotate_left
      · intro w hSw; (try dsimp only at hSw); (try simp only [List.getElem_toArray, List.getElem_cons_succ, List.getElem_cons_zero]); (go_simp; try with_reducible rfl)
      try simp only [List.getElem_toArray, List.getElem_cons_succ, List.getElem_cons_zero, Act.put, List.setIfInBounds_toArray, List.set_cons_zero, List.set_cons_succ]
      refine wpAnyH_take (i := 36) (v := ?_) rfl (by kernel_rfl) (by kernel_rfl) (by kernel_rfl) (fun _ _ _ h => h) (Or.inl ⟨by rfl, ?_⟩) hHeld ?_
      rotate_left
      · intro w hSw; (try dsimp only at hSw); (try simp only [List.getElem_toArray, List.getElem_cons_succ, List.getElem_cons_zero]); (go_simp; try with_reducible rfl)
      try simp only [List.getElem_toArray, List.getElem_cons_succ, List.getElem_cons_zero, Act.put, List.setIfInBounds_toArray, List.set_cons_zero, List.set_cons_succ]
      refine wpAnyH_take (i := 37) (v := ?_) rfl (by kernel_rfl) (by kernel_rfl) (by kernel_rfl) (fun _ _ _ h => h) (Or.inl ⟨by rfl, ?_⟩) hHeld ?_
      rotate_left
      · intro w hSw; (try dsimp only at hSw); (try simp only [List.getElem_toArray, List.getElem_cons_succ, List.getElem_cons_zero]); (go_simp; try with_reducible rfl)
      try simp only [List.getElem_toArray, List.getElem_cons_succ, List.getElem_cons_zero, Act.put, List.setIfInBounds_toArray, List.set_cons_zero, List.set_cons_succ]
      refine wpAnyH_ready (rs := [35]) (by kernel_rfl) (by simp) ?_
      refine AllReadyH.cons rfl (fun K hK => ?_) AllReadyH.nil
      go_simp
      (refine Calls.mono (mcut_any gm m _ s _ (by omega) hMx) ?_; rintro x w6 ⟨rfl, hb'⟩; have hS := hKeep.out _ _ gm (by omega) (below_grown hb') hHeld; replace hMx : MX w6 gm m _ := gblk hb' hMx; replace hRx := hRx.keep hb')
      refine hK.out _ _ hS (fun hNew => ?_)
      clear hK K hHeld hb'
      have hHeld := hNew
      clear hNew
      try simp only [List.getElem_toArray, List.getElem_cons_succ, List.getElem_cons_zero, Act.put, List.setIfInBounds_toArray, List.set_cons_zero, List.set_cons_succ]
      refine wpAnyH_ready (rs := [38]) (by kernel_rfl) (by simp) ?_
      refine AllReadyH.cons rfl (fun K hK => ?_) AllReadyH.nil
      go_simp
      (refine Calls.mono (rcut_any gp gr m _ s _ (by omega) hRx) ?_; rintro x w6 ⟨rfl, hb'⟩; have hS := hKeep.out _ _ gm (by omega) (below_grown hb') hHeld; replace hMx : MX w6 gm m _ := gblk hb' hMx; replace hRx := hRx.keep hb')
      refine hK.out _ _ hS (fun hNew => ?_)
      clear hK K hHeld hb'
      have hHeld := hNew
      clear hNew
      try simp only [List.getElem_toArray, List.getElem_cons_succ, List.getElem_cons_zero, Act.put, List.setIfInBounds_toArray, List.set_cons_zero, List.set_cons_succ]
      refine wpAnyH_take (i := 39) (v := ?_) rfl (by kernel_rfl) (by kernel_rfl) (by kernel_rfl) (fun _ _ _ h => h) (Or.inl ⟨by rfl, ?_⟩) hHeld ?_
      rotate_left
      · intro w hSw; (try dsimp only at hSw); (try simp only [List.getElem_toArray, List.getElem_cons_succ, List.getElem_cons_zero]); (go_simp; try with_reducible rfl)
      try simp only [List.getElem_toArray, List.getElem_cons_succ, List.getElem_cons_zero, Act.put, List.setIfInBounds_toArray, List.set_cons_zero, List.set_cons_succ]
      refine wpAnyH_take (i := 40) (v := ?_) rfl (by kernel_rfl) (by kernel_rfl) (by kernel_rfl) (fun _ _ _ h => h) (Or.inl ⟨by rfl, ?_⟩) hHeld ?_
      rotate_left
      · intro w hSw; (try dsimp only at hSw); (try simp only [List.getElem_toArray, List.getElem_cons_succ, List.getElem_cons_zero]); (go_simp; try with_reducible rfl)
      try simp only [List.getElem_toArray, List.getElem_cons_succ, List.getElem_cons_zero, Act.put, List.setIfInBounds_toArray, List.set_cons_zero, List.set_cons_succ]
      refine wpAnyH_done (by kernel_rfl) ?_ _
      have Q := Lib.hid hHeld
      have R2 := Lib.hid hMx
      have R3 := Lib.hid hRx
      clear hHeld hMx hRx P0 c1 c2 k1
      go_wp2
      go_roundw
      case rel => exact ⟨k + 1, by omega, by go_num, Q.out.1, Q.out.2.1, by rw [E.out]; exact R2.out, by rw [E.out]; exact R3.out⟩
      case measure => simp [intOf]; omega
    · have e : k = L.length := by omega
      subst e
      rw [List.take_length] at k2 k3
      generalize runM m zM L = M at *
      have P1 := Lib.hid k1
      have P2 := Lib.hid k2
      have P3 := Lib.hid k3
      clear k1 k2 k3 K2 K3 hlt
      go_wp2_with fail
      go_loopw [10] (fun i wq => ∃ r : Int, -1 ≤ r ∧ r ≤ 17 ∧ i = .int .i64 r ∧ Below g5 w wq ∧ g5 ≤ wq.heap.size ∧ blk wq g5 = some (.cells (vv s) 23) ∧ MX wq gm m M ∧ RX wq gp gr m M) (fun i _ => (17 - intOf i).toNat)
      case atStart => exact ⟨-1, by omega, by omega, rfl, P0.out, hs0, P1.out, P2.out, P3.out⟩
      case round =>
        obtain ⟨r, hr1, hr2, rfl, k0, hs0, k1, k2, k3⟩ := hrel
        replace P0 := Lib.hid k0
        replace P1 := Lib.hid k1
        replace P2 : Hid (MX wr gm m M) := Lib.hid k2
        replace P3 := Lib.hid k3
        clear k0
        by_cases hlt : r ≤ 16
        · have c0 := k3.cell
          have d0 := k3.2
          have hpl : gp < wr.heap.size := (Array.getElem?_eq_some_iff.1 (show wr.heap[gp]? = _ from k3.1)).1
          have hgl : gr < wr.heap.size := (Array.getElem?_eq_some_iff.1 (show wr.heap[gr]? = _ from k3.2)).1
          have hpb : gp ≠ wr.heap.size := Nat.ne_of_lt (Array.getElem?_eq_some_iff.1 (show wr.heap[gp]? = _ from k3.1)).1
          have hgb : gr ≠ wr.heap.size := Nat.ne_of_lt (Array.getElem?_eq_some_iff.1 (show wr.heap[gr]? = _ from k3.2)).1
          clear k1 k2 k3
          by_cases h0 : 0 ≤ r
          rotate_left
          · go_wp2_with fail
            have hB := (Below.refl wr.heap.size wr).alloc (Nat.le_refl _) (Obj.cells (vv (z0)) 23)
            have q0 := gbel hB P0.out hs0
            have q1 := gblk hB P1.out
            have q2 : MX (wr.alloc (Obj.cells (vv (z0)) 23)) gm m M := gblk hB P2.out
            have q3 := P3.out.keep hB
            have q4 := gblk_new wr (Obj.cells (vv (z0)) 23)
            have q5 := Nat.le_trans hs0 hB.size
            have Q0 := Lib.hid q0
            have hrow : rowF m M r = z0 := rowF_out (by omega)
            clear hB q0 P0 P1 P2 P3
            generalize wr.alloc (Obj.cells (vv (z0)) 23) = w8 at *
            generalize wr.heap.size = gb at *
            generalize z0 = row at *
            have hsame := same16_refl row
            refine wp_region_held_drew (S := fun w' => (Below g5 w w' ∧ g5 ≤ w'.heap.size) ∧ blk w' g5 = some (.cells (vv s) 23) ∧ MX w' gm m M ∧ RX w' gp gr m M ∧ blk w' gb = some (.cells (vv row) 23)) (by kernel_rfl) ⟨⟨Q0.out.drew, q5⟩, q1, q2, q3, q4⟩ (fun hHeld => ?_)
            refine wpAnyH_take (i := 0) (v := ?_) rfl (by kernel_rfl) (by kernel_rfl) (by kernel_rfl) (fun _ _ _ h => h) (Or.inl ⟨by rfl, ?_⟩) hHeld ?_
            rotate_left
            · intro w hSw; (try dsimp only at hSw); (try simp only [List.getElem_toArray, List.getElem_cons_succ, List.getElem_cons_zero]); (go_simp; try with_reducible rfl)
            try simp only [List.getElem_toArray, List.getElem_cons_succ, List.getElem_cons_zero, Act.put, List.setIfInBounds_toArray, List.set_cons_zero, List.set_cons_succ]
            refine wpAnyH_take (i := 1) (v := ?_) rfl (by kernel_rfl) (by kernel_rfl) (by kernel_rfl) (fun _ _ _ h => h) (Or.inl ⟨by rfl, ?_⟩) hHeld ?_
            rotate_left
            · intro w hSw; (try dsimp only at hSw); (try simp only [List.getElem_toArray, List.getElem_cons_succ, List.getElem_cons_zero]); (go_simp; try with_reducible rfl)
            try simp only [List.getElem_toArray, List.getElem_cons_succ, List.getElem_cons_zero, Act.put, List.setIfInBounds_toArray, List.set_cons_zero, List.set_cons_succ]
            refine wpAnyH_take (i := 3) (v := ?_) rfl (by kernel_rfl) (by kernel_rfl) (by kernel_rfl) (fun _ _ _ h => h) (Or.inl ⟨by rfl, ?_⟩) hHeld ?_
            rotate_left
            · intro w hSw; (try dsimp only at hSw); (try simp only [List.getElem_toArray, List.getElem_cons_succ, List.getElem_cons_zero]); (go_simp; try with_reducible rfl)
            try simp only [List.getElem_toArray, List.getElem_cons_succ, List.getElem_cons_zero, Act.put, List.setIfInBounds_toArray, List.set_cons_zero, List.set_cons_succ]
            refine wpAnyH_ready (rs := [2]) (by kernel_rfl) (by simp) ?_
            refine AllReadyH.cons rfl (fun K hK => ?_) AllReadyH.nil
            go_simp
            (refine Calls.mono (mrow_any gm m r M _ (by omega) hHeld.2.2.1) ?_; rintro e w' ⟨rfl, hb'⟩; rw [hrow])
            refine hK.out _ _ (show _ ∧ _ ∧ _ ∧ RX w' gp gr m M ∧ _ from ⟨⟨gbel hb' hHeld.1.1 hHeld.1.2, Nat.le_trans hHeld.1.2 hb'.size⟩, gblk hb' hHeld.2.1, gblk hb' hHeld.2.2.1, hHeld.2.2.2.1.keep hb', gblk hb' hHeld.2.2.2.2⟩) (fun hNew => ?_)
            clear hK K hHeld hb'
            have hHeld := hNew
            clear hNew
            try simp only [List.getElem_toArray, List.getElem_cons_succ, List.getElem_cons_zero, Act.put, List.setIfInBounds_toArray, List.set_cons_zero, List.set_cons_succ]
            refine wpAnyH_take (i := 4) (v := ?_) rfl (by kernel_rfl) (by kernel_rfl) (by kernel_rfl) (fun _ _ _ h => h) (Or.inl ⟨by rfl, ?_⟩) hHeld ?_
            rotate_left
            · intro w hSw; (try dsimp only at hSw); (try simp only [List.getElem_toArray, List.getElem_cons_succ, List.getElem_cons_zero]); (go_simp; try with_reducible rfl)
            try simp only [List.getElem_toArray, List.getElem_cons_succ, List.getElem_cons_zero, Act.put, List.setIfInBounds_toArray, List.set_cons_zero, List.set_cons_succ]
            refine wpAnyH_done (by kernel_rfl) ?_ _
            have Q := Lib.hid hHeld
            clear hHeld Q0 q1 q2 q3 q4 q5 hrow
            go_wp2
            go_roundw
            case rel => exact ⟨r + 1, by omega, by omega, by go_num, Q.out.1.1, Q.out.1.2, Q.out.2.1, Q.out.2.2.1, Q.out.2.2.2.1⟩
            case measure => simp [intOf]; omega
          obtain ⟨q, rfl⟩ := Int.eq_ofNat_of_zero_le h0
          by_cases hq : q < m
          · have hqi : (q : Int) < m := by omega
            have hq16 : q * 16 + 16 ≤ m * 16 := by omega
            go_wp2_with fail
            have hB := (Below.refl wr.heap.size wr).alloc (Nat.le_refl _) (Obj.cells (vv (M q)) 23)
            have q0 := gbel hB P0.out hs0
            have q1 := gblk hB P1.out
            have q2 : MX (wr.alloc (Obj.cells (vv (M q)) 23)) gm m M := gblk hB P2.out
            have q3 := P3.out.keep hB
            have q4 := gblk_new wr (Obj.cells (vv (M q)) 23)
            have q5 := Nat.le_trans hs0 hB.size
            have Q0 := Lib.hid q0
            have hrow : rowF m M q = M q := rowF_in (by omega)
            clear hB q0 P0 P1 P2 P3
            generalize wr.alloc (Obj.cells (vv (M q)) 23) = w8 at *
            generalize wr.heap.size = gb at *
            generalize M q = row at *
            have hsame := same16_refl row
            refine wp_region_held_drew (S := fun w' => (Below g5 w w' ∧ g5 ≤ w'.heap.size) ∧ blk w' g5 = some (.cells (vv s) 23) ∧ MX w' gm m M ∧ RX w' gp gr m M ∧ blk w' gb = some (.cells (vv row) 23)) (by kernel_rfl) ⟨⟨Q0.out.drew, q5⟩, q1, q2, q3, q4⟩ (fun hHeld => ?_)
            refine wpAnyH_take (i := 0) (v := ?_) rfl (by kernel_rfl) (by kernel_rfl) (by kernel_rfl) (fun _ _ _ h => h) (Or.inl ⟨by rfl, ?_⟩) hHeld ?_
            rotate_left
            · intro w hSw; (try dsimp only at hSw); (try simp only [List.getElem_toArray, List.getElem_cons_succ, List.getElem_cons_zero]); (go_simp; try with_reducible rfl)
            try simp only [List.getElem_toArray, List.getElem_cons_succ, List.getElem_cons_zero, Act.put, List.setIfInBounds_toArray, List.set_cons_zero, List.set_cons_succ]
            refine wpAnyH_take (i := 1) (v := ?_) rfl (by kernel_rfl) (by kernel_rfl) (by kernel_rfl) (fun _ _ _ h => h) (Or.inl ⟨by rfl, ?_⟩) hHeld ?_
            rotate_left
            · intro w hSw; (try dsimp only at hSw); (try simp only [List.getElem_toArray, List.getElem_cons_succ, List.getElem_cons_zero]); (go_simp; try with_reducible rfl)
            try simp only [List.getElem_toArray, List.getElem_cons_succ, List.getElem_cons_zero, Act.put, List.setIfInBounds_toArray, List.set_cons_zero, List.set_cons_succ]
            refine wpAnyH_take (i := 3) (v := ?_) rfl (by kernel_rfl) (by kernel_rfl) (by kernel_rfl) (fun _ _ _ h => h) (Or.inl ⟨by rfl, ?_⟩) hHeld ?_
            rotate_left
            · intro w hSw; (try dsimp only at hSw); (try simp only [List.getElem_toArray, List.getElem_cons_succ, List.getElem_cons_zero]); (go_simp; try with_reducible rfl)
            try simp only [List.getElem_toArray, List.getElem_cons_succ, List.getElem_cons_zero, Act.put, List.setIfInBounds_toArray, List.set_cons_zero, List.set_cons_succ]
            refine wpAnyH_ready (rs := [2]) (by kernel_rfl) (by simp) ?_
            refine AllReadyH.cons rfl (fun K hK => ?_) AllReadyH.nil
            go_simp
            (refine Calls.mono (mrow_any gm m q M _ (by omega) hHeld.2.2.1) ?_; rintro e w' ⟨rfl, hb'⟩; rw [hrow])
            refine hK.out _ _ (show _ ∧ _ ∧ _ ∧ RX w' gp gr m M ∧ _ from ⟨⟨gbel hb' hHeld.1.1 hHeld.1.2, Nat.le_trans hHeld.1.2 hb'.size⟩, gblk hb' hHeld.2.1, gblk hb' hHeld.2.2.1, hHeld.2.2.2.1.keep hb', gblk hb' hHeld.2.2.2.2⟩) (fun hNew => ?_)
            clear hK K hHeld hb'
            have hHeld := hNew
            clear hNew
            try simp only [List.getElem_toArray, List.getElem_cons_succ, List.getElem_cons_zero, Act.put, List.setIfInBounds_toArray, List.set_cons_zero, List.set_cons_succ]
            refine wpAnyH_take (i := 4) (v := ?_) rfl (by kernel_rfl) (by kernel_rfl) (by kernel_rfl) (fun _ _ _ h => h) (Or.inl ⟨by rfl, ?_⟩) hHeld ?_
            rotate_left
            · intro w hSw; (try dsimp only at hSw); (try simp only [List.getElem_toArray, List.getElem_cons_succ, List.getElem_cons_zero]); (go_simp; try with_reducible rfl)
            try simp only [List.getElem_toArray, List.getElem_cons_succ, List.getElem_cons_zero, Act.put, List.setIfInBounds_toArray, List.set_cons_zero, List.set_cons_succ]
            refine wpAnyH_done (by kernel_rfl) ?_ _
            have Q := Lib.hid hHeld
            clear hHeld Q0 q1 q2 q3 q4 q5 hrow
            go_wp2
            go_roundw
            case rel => exact ⟨q + 1, by omega, by omega, by go_num, Q.out.1.1, Q.out.1.2, Q.out.2.1, Q.out.2.2.1, Q.out.2.2.2.1⟩
            case measure => simp [intOf]; omega
          · have hqi : ¬ (q : Int) < m := by omega
            go_wp2_with fail
            have hB := (Below.refl wr.heap.size wr).alloc (Nat.le_refl _) (Obj.cells (vv (z0)) 23)
            have q0 := gbel hB P0.out hs0
            have q1 := gblk hB P1.out
            have q2 : MX (wr.alloc (Obj.cells (vv (z0)) 23)) gm m M := gblk hB P2.out
            have q3 := P3.out.keep hB
            have q4 := gblk_new wr (Obj.cells (vv (z0)) 23)
            have q5 := Nat.le_trans hs0 hB.size
            have Q0 := Lib.hid q0
            have hrow : rowF m M q = z0 := rowF_out (by omega)
            clear hB q0 P0 P1 P2 P3
            generalize wr.alloc (Obj.cells (vv (z0)) 23) = w8 at *
            generalize wr.heap.size = gb at *
            generalize z0 = row at *
            have hsame := same16_refl row
            refine wp_region_held_drew (S := fun w' => (Below g5 w w' ∧ g5 ≤ w'.heap.size) ∧ blk w' g5 = some (.cells (vv s) 23) ∧ MX w' gm m M ∧ RX w' gp gr m M ∧ blk w' gb = some (.cells (vv row) 23)) (by kernel_rfl) ⟨⟨Q0.out.drew, q5⟩, q1, q2, q3, q4⟩ (fun hHeld => ?_)
            refine wpAnyH_take (i := 0) (v := ?_) rfl (by kernel_rfl) (by kernel_rfl) (by kernel_rfl) (fun _ _ _ h => h) (Or.inl ⟨by rfl, ?_⟩) hHeld ?_
            rotate_left
            · intro w hSw; (try dsimp only at hSw); (try simp only [List.getElem_toArray, List.getElem_cons_succ, List.getElem_cons_zero]); (go_simp; try with_reducible rfl)
            try simp only [List.getElem_toArray, List.getElem_cons_succ, List.getElem_cons_zero, Act.put, List.setIfInBounds_toArray, List.set_cons_zero, List.set_cons_succ]
            refine wpAnyH_take (i := 1) (v := ?_) rfl (by kernel_rfl) (by kernel_rfl) (by kernel_rfl) (fun _ _ _ h => h) (Or.inl ⟨by rfl, ?_⟩) hHeld ?_
            rotate_left
            · intro w hSw; (try dsimp only at hSw); (try simp only [List.getElem_toArray, List.getElem_cons_succ, List.getElem_cons_zero]); (go_simp; try with_reducible rfl)
            try simp only [List.getElem_toArray, List.getElem_cons_succ, List.getElem_cons_zero, Act.put, List.setIfInBounds_toArray, List.set_cons_zero, List.set_cons_succ]
            refine wpAnyH_take (i := 3) (v := ?_) rfl (by kernel_rfl) (by kernel_rfl) (by kernel_rfl) (fun _ _ _ h => h) (Or.inl ⟨by rfl, ?_⟩) hHeld ?_
            rotate_left
            · intro w hSw; (try dsimp only at hSw); (try simp only [List.getElem_toArray, List.getElem_cons_succ, List.getElem_cons_zero]); (go_simp; try with_reducible rfl)
            try simp only [List.getElem_toArray, List.getElem_cons_succ, List.getElem_cons_zero, Act.put, List.setIfInBounds_toArray, List.set_cons_zero, List.set_cons_succ]
            refine wpAnyH_ready (rs := [2]) (by kernel_rfl) (by simp) ?_
            refine AllReadyH.cons rfl (fun K hK => ?_) AllReadyH.nil
            go_simp
            (refine Calls.mono (mrow_any gm m q M _ (by omega) hHeld.2.2.1) ?_; rintro e w' ⟨rfl, hb'⟩; rw [hrow])
            refine hK.out _ _ (show _ ∧ _ ∧ _ ∧ RX w' gp gr m M ∧ _ from ⟨⟨gbel hb' hHeld.1.1 hHeld.1.2, Nat.le_trans hHeld.1.2 hb'.size⟩, gblk hb' hHeld.2.1, gblk hb' hHeld.2.2.1, hHeld.2.2.2.1.keep hb', gblk hb' hHeld.2.2.2.2⟩) (fun hNew => ?_)
            clear hK K hHeld hb'
            have hHeld := hNew
            clear hNew
            try simp only [List.getElem_toArray, List.getElem_cons_succ, List.getElem_cons_zero, Act.put, List.setIfInBounds_toArray, List.set_cons_zero, List.set_cons_succ]
            refine wpAnyH_take (i := 4) (v := ?_) rfl (by kernel_rfl) (by kernel_rfl) (by kernel_rfl) (fun _ _ _ h => h) (Or.inl ⟨by rfl, ?_⟩) hHeld ?_
            rotate_left
            · intro w hSw; (try dsimp only at hSw); (try simp only [List.getElem_toArray, List.getElem_cons_succ, List.getElem_cons_zero]); (go_simp; try with_reducible rfl)
            try simp only [List.getElem_toArray, List.getElem_cons_succ, List.getElem_cons_zero, Act.put, List.setIfInBounds_toArray, List.set_cons_zero, List.set_cons_succ]
            refine wpAnyH_done (by kernel_rfl) ?_ _
            have Q := Lib.hid hHeld
            clear hHeld Q0 q1 q2 q3 q4 q5 hrow
            go_wp2
            go_roundw
            case rel => exact ⟨q + 1, by omega, by omega, by go_num, Q.out.1.1, Q.out.1.2, Q.out.2.1, Q.out.2.2.1, Q.out.2.2.2.1⟩
            case measure => simp [intOf]; omega
        · have hKeep : Hid (∀ (W W' : World) (q : Nat), g5 < q → W.grownBy W' (some q) → ((Below g5 w W ∧ g5 ≤ W.heap.size) ∧ blk W g5 = some (.cells (vv s) 23)) → ((Below g5 w W' ∧ g5 ≤ W'.heap.size) ∧ blk W' g5 = some (.cells (vv s) 23))) := Lib.hid fun W W' q hq hG hH => ⟨⟨grown_new hG hH.1.2 (Nat.le_of_lt hq) hH.1.1, Nat.le_trans hH.1.2 hG.size⟩, grown_blk hG (Nat.ne_of_lt hq) hH.2⟩
          have hs1 := same16_refl (stabF m M)
          have hs2 := same16_refl (cutF m M s)
          have hMx : MX wr.drew gm m M := k2
          have hRx : RX wr.drew gp gr m M := k3
          clear k2 k3
          go_wp2_with fail
          refine wp_region_held_drew (S := fun w' => (Below g5 w w' ∧ g5 ≤ w'.heap.size) ∧ blk w' g5 = some (.cells (vv s) 23)) (by kernel_rfl) ⟨⟨P0.out.drew, hs0⟩, k1⟩ (fun hHeld => ?_)
          refine wpAnyH_take (i := 0) (v := ?_) rfl (by kernel_rfl) (by kernel_rfl) (by kernel_rfl) (fun _ _ _ h => h) (Or.inl ⟨by rfl, ?_⟩) hHeld ?_
          rotate_left
          · intro w hSw; (try dsimp only at hSw); (try simp only [List.getElem_toArray, List.getElem_cons_succ, List.getElem_cons_zero]); (go_simp; try with_reducible rfl)
          try simp only [List.getElem_toArray, List.getElem_cons_succ, List.getElem_cons_zero, Act.put, List.setIfInBounds_toArray, List.set_cons_zero, List.set_cons_succ]
          refine wpAnyH_take (i := 2) (v := ?_) rfl (by kernel_rfl) (by kernel_rfl) (by kernel_rfl) (fun _ _ _ h => h) (Or.inl ⟨by rfl, ?_⟩) hHeld ?_
          rotate_left
          · intro w hSw; (try dsimp only at hSw); (try simp only [List.getElem_toArray, List.getElem_cons_succ, List.getElem_cons_zero]); (go_simp; try with_reducible rfl)
          try simp only [List.getElem_toArray, List.getElem_cons_succ, List.getElem_cons_zero, Act.put, List.setIfInBounds_toArray, List.set_cons_zero, List.set_cons_succ]
          refine wpAnyH_ready (rs := [1]) (by kernel_rfl) (by simp) ?_
          refine AllReadyH.cons rfl (fun K hK => ?_) AllReadyH.nil
          go_simp
          (refine Calls.mono (mstable_any gm m _ _ (by omega) hMx) ?_; rintro x w6 ⟨rfl, hb'⟩; have hS := hKeep.out _ _ gm (by omega) (below_grown hb') hHeld; replace hMx : MX w6 gm m _ := gblk hb' hMx; replace hRx := hRx.keep hb')
          refine hK.out _ _ hS (fun hNew => ?_)
          clear hK K hHeld hb'
          have hHeld := hNew
          clear hNew
          try simp only [List.getElem_toArray, List.getElem_cons_succ, List.getElem_cons_zero, Act.put, List.setIfInBounds_toArray, List.set_cons_zero, List.set_cons_succ]
          refine wpAnyH_ready (rs := [3]) (by kernel_rfl) (by simp) ?_
          refine AllReadyH.cons rfl (fun K hK => ?_) AllReadyH.nil
          go_simp
          (refine Calls.mono (rstable_any gp gr m _ _ (by omega) hRx) ?_; rintro x w6 ⟨rfl, hb'⟩; have hS := hKeep.out _ _ gm (by omega) (below_grown hb') hHeld; replace hMx : MX w6 gm m _ := gblk hb' hMx; replace hRx := hRx.keep hb')
          refine hK.out _ _ hS (fun hNew => ?_)
          clear hK K hHeld hb'
          have hHeld := hNew
          clear hNew
          try simp only [List.getElem_toArray, List.getElem_cons_succ, List.getElem_cons_zero, Act.put, List.setIfInBounds_toArray, List.set_cons_zero, List.set_cons_succ]
          refine wpAnyH_take (i := 4) (v := ?_) rfl (by kernel_rfl) (by kernel_rfl) (by kernel_rfl) (fun _ _ _ h => h) (Or.inl ⟨by rfl, ?_⟩) hHeld ?_
          rotate_left
          · intro w hSw; (try dsimp only at hSw); (try simp only [List.getElem_toArray, List.getElem_cons_succ, List.getElem_cons_zero]); (go_simp; try with_reducible rfl)
          try simp only [List.getElem_toArray, List.getElem_cons_succ, List.getElem_cons_zero, Act.put, List.setIfInBounds_toArray, List.set_cons_zero, List.set_cons_succ]
          refine wpAnyH_take (i := 5) (v := ?_) rfl (by kernel_rfl) (by kernel_rfl) (by kernel_rfl) (fun _ _ _ h => h) (Or.inl ⟨by rfl, ?_⟩) hHeld ?_
          rotate_left
          · intro w hSw; (try dsimp only at hSw); (try simp only [List.getElem_toArray, List.getElem_cons_succ, List.getElem_cons_zero]); (go_simp; try with_reducible rfl)
          try simp only [List.getElem_toArray, List.getElem_cons_succ, List.getElem_cons_zero, Act.put, List.setIfInBounds_toArray, List.set_cons_zero, List.set_cons_succ]
          refine wpAnyH_take (i := 6) (v := ?_) rfl (by kernel_rfl) (by kernel_rfl) (by kernel_rfl) (fun _ _ _ h => h) (Or.inl ⟨by rfl, ?_⟩) hHeld ?_
          rotate_left
          · intro w hSw; (try dsimp only at hSw); (try simp only [List.getElem_toArray, List.getElem_cons_succ, List.getElem_cons_zero]); (go_simp; try with_reducible rfl)
          try simp only [List.getElem_toArray, List.getElem_cons_succ, List.getElem_cons_zero, Act.put, List.setIfInBounds_toArray, List.set_cons_zero, List.set_cons_succ]
          refine wpAnyH_take (i := 7) (v := ?_) rfl (by kernel_rfl) (by kernel_rfl) (by kernel_rfl) (fun _ _ _ h => h) (Or.inl ⟨by rfl, ?_⟩) hHeld ?_
          rotate_left
          · intro w hSw; (try dsimp only at hSw); (try simp only [List.getElem_toArray, List.getElem_cons_succ, List.getElem_cons_zero]); (go_simp; try with_reducible rfl)
          try simp only [List.getElem_toArray, List.getElem_cons_succ, List.getElem_cons_zero, Act.put, List.setIfInBounds_toArray, List.set_cons_zero, List.set_cons_succ]
          refine wpAnyH_take (i := 9) (v := ?_) rfl (by kernel_rfl) (by kernel_rfl) (by kernel_rfl) (fun _ _ _ h => h) (Or.inl ⟨by rfl, ?_⟩) hHeld ?_
          rotate_left
          · intro w hSw; (try dsimp only at hSw); (try simp only [List.getElem_toArray, List.getElem_cons_succ, List.getElem_cons_zero]); (go_simp; try with_reducible rfl)
          try simp only [List.getElem_toArray, List.getElem_cons_succ, List.getElem_cons_zero, Act.put, List.setIfInBounds_toArray, List.set_cons_zero, List.set_cons_succ]
          refine wpAnyH_take (i := 10) (v := ?_) rfl (by kernel_rfl) (by kernel_rfl) (by kernel_rfl) (fun _ _ _ h => h) (Or.inl ⟨by rfl, ?_⟩) hHeld ?_
          rotate_left
          · intro w hSw; (try dsimp only at hSw); (try simp only [List.getElem_toArray, List.getElem_cons_succ, List.getElem_cons_zero]); (go_simp; try with_reducible rfl)
          try simp only [List.getElem_toArray, List.getElem_cons_succ, List.getElem_cons_zero, Act.put, List.setIfInBounds_toArray, List.set_cons_zero, List.set_cons_succ]
          refine wpAnyH_ready (rs := [8]) (by kernel_rfl) (by simp) ?_
          refine AllReadyH.cons rfl (fun K hK => ?_) AllReadyH.nil
          go_simp
          (refine Calls.mono (mcut_any gm m _ s _ (by omega) hMx) ?_; rintro x w6 ⟨rfl, hb'⟩; have hS := hKeep.out _ _ gm (by omega) (below_grown hb') hHeld; replace hMx : MX w6 gm m _ := gblk hb' hMx; replace hRx := hRx.keep hb')
          refine hK.out _ _ hS (fun hNew => ?_)
          clear hK K hHeld hb'
          have hHeld := hNew
          clear hNew
          try simp only [List.getElem_toArray, List.getElem_cons_succ, List.getElem_cons_zero, Act.put, List.setIfInBounds_toArray, List.set_cons_zero, List.set_cons_succ]
          refine wpAnyH_ready (rs := [11]) (by kernel_rfl) (by simp) ?_
          refine AllReadyH.cons rfl (fun K hK => ?_) AllReadyH.nil
          go_simp
          (refine Calls.mono (rcut_any gp gr m _ s _ (by omega) hRx) ?_; rintro x w6 ⟨rfl, hb'⟩; have hS := hKeep.out _ _ gm (by omega) (below_grown hb') hHeld; replace hMx : MX w6 gm m _ := gblk hb' hMx; replace hRx := hRx.keep hb')
          refine hK.out _ _ hS (fun hNew => ?_)
          clear hK K hHeld hb'
          have hHeld := hNew
          clear hNew
          try simp only [List.getElem_toArray, List.getElem_cons_succ, List.getElem_cons_zero, Act.put, List.setIfInBounds_toArray, List.set_cons_zero, List.set_cons_succ]
          refine wpAnyH_take (i := 12) (v := ?_) rfl (by kernel_rfl) (by kernel_rfl) (by kernel_rfl) (fun _ _ _ h => h) (Or.inl ⟨by rfl, ?_⟩) hHeld ?_
          rotate_left
          · intro w hSw; (try dsimp only at hSw); (try simp only [List.getElem_toArray, List.getElem_cons_succ, List.getElem_cons_zero]); (go_simp; try with_reducible rfl)
          try simp only [List.getElem_toArray, List.getElem_cons_succ, List.getElem_cons_zero, Act.put, List.setIfInBounds_toArray, List.set_cons_zero, List.set_cons_succ]
          refine wpAnyH_take (i := 13) (v := ?_) rfl (by kernel_rfl) (by kernel_rfl) (by kernel_rfl) (fun _ _ _ h => h) (Or.inl ⟨by rfl, ?_⟩) hHeld ?_
          rotate_left
          · intro w hSw; (try dsimp only at hSw); (try simp only [List.getElem_toArray, List.getElem_cons_succ, List.getElem_cons_zero]); (go_simp; try with_reducible rfl)
          try simp only [List.getElem_toArray, List.getElem_cons_succ, List.getElem_cons_zero, Act.put, List.setIfInBounds_toArray, List.set_cons_zero, List.set_cons_succ]
          refine wpAnyH_take (i := 14) (v := ?_) rfl (by kernel_rfl) (by kernel_rfl) (by kernel_rfl) (fun _ _ _ h => h) (Or.inl ⟨by rfl, ?_⟩) hHeld ?_
          rotate_left
          · intro w hSw; (try dsimp only at hSw); (try simp only [List.getElem_toArray, List.getElem_cons_succ, List.getElem_cons_zero]); (go_simp; try with_reducible rfl)
          try simp only [List.getElem_toArray, List.getElem_cons_succ, List.getElem_cons_zero, Act.put, List.setIfInBounds_toArray, List.set_cons_zero, List.set_cons_succ]
          refine wpAnyH_done (by kernel_rfl) ?_ _
          have Q := Lib.hid hHeld
          clear hHeld hMx hRx P0 P1 P2 P3 k1
          go_wp2
          go_ret
          first
            | exact ⟨rfl, Q.out.1.1⟩
            | exact ⟨rfl, Q.out.1.1.mono (Nat.le_of_eq hg5)⟩

theorem walk (n : Int) (a : Option Addr) (len cap : Nat) (c2 : List Value) (w : World) (w0 : (Lit.int .i64 n).wf = true) (hl : len ≤ cap) (hm : cap ≤ maxLen) (hr : RowsIn [.int .i64, .int .i64, .int .i64, .int .i64, .int .i64, .int .i64, .int .i64, .int .i64, .int .i64, .int .i64, .int .i64, .int .i64, .int .i64, .int .i64, .int .i64, .int .i64, .int .i64] w a len)
    (h2 : LeavesOk [.int .i64, .int .i64, .int .i64, .int .i64, .int .i64, .int .i64, .int .i64, .int .i64, .int .i64, .int .i64, .int .i64, .int .i64, .int .i64, .int .i64, .int .i64, .int .i64] c2) :
    Calls Try.prog 8 #[.int .i64 n, .slice a len cap, .agg c2.toArray] w fun e w' => e = .returned (.bool true) ∧ Below w.heap.size w w' := by
  obtain ⟨L, rfl, hL, _⟩ := ops_of hl hm hr
  obtain ⟨s, es, _⟩ := vv_of h2
  rw [es]
  exact walk_op n a cap L s w hL

end Go.Proofs.Ythjeginhoddmiaa.matrixPlays
