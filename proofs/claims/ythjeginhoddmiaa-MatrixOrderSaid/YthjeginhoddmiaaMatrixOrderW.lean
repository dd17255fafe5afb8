/- The walk of polyphonylaw19.MatrixOrder: it returns true, and what was there is as it was. No conditions. -/
import Derived.Test.YthjeginhoddmiaaMxAwake
import Derived.Test.YthjeginhoddmiaaMxOp
import Derived.Test.YthjeginhoddmiaaMxComm
import Derived.Test.YthjeginhoddmiaaHeldC
namespace Go.Proofs.Ythjeginhoddmiaa.matrixOrder
open Go.RowKit
attribute [local go_sem] bmax2_int bmin2_int bmax_two bmin_two blk_alloc blk_setRow blk_setCell blk_drew blk_drewN alloc_setRow cell_setRow_ne drew_setRow drewN_setRow fold_z0 vv_size vv_get vv_set
attribute [local go_sem ↓] exec_load_vv exec_store_vv exec_index_vv exec_eql_vv exec_neq_vv
attribute [local go_sem] loadVV_at storeVV_at indexVV_at eqVV_eql eqVV_neq ne_r2 ne_l2 ne_r3 ne_l3 ne_r4 ne_l4 ne_r5 ne_l5 ne_r6 ne_l6 ne_r7 ne_l7 ne_r8 ne_l8
set_option linter.unusedVariables false
set_option linter.unusedSimpArgs false
attribute [local go_sem] mxA_size rowM_mx putM_mx loadVV_mx storeVV_mx buildMX_int
attribute [local go_sem ↓] exec_build_mx exec_build_mx0
attribute [local go_sem] loadVV_op rowN_drew

theorem gbel {W W' w0 : World} {B : Nat} (h : Below W.heap.size W W') (hb : Below B w0 W) (hB : B ≤ W.heap.size) : Below B w0 W' := hb.trans (h.mono hB)
theorem see2 (g : Nat) (n r : Int) (v : Nat → Int) (M : Nat → Nat → Int) (w : World) (hn : n ≤ 16) (h : MX w g n M ∨ MX w g n (seeM n M r v)) :
    Calls Try.prog 32 #[.pointer (some ⟨g, 0, none⟩), .int .i64 r, .agg (vv v)] w fun e w' => e = .returned (.int .i64 (seeE n r v)) ∧ MX w' g n (seeM n M r v) ∧ w.grownBy w' (some g) := by
  rcases h with h | h
  · exact msee_any g n r v M w hn h
  · have := msee_any g n r v (seeM n M r v) w hn h
    rw [seeM_idem] at this
    exact this

set_option maxRecDepth 100000 in
set_option maxHeartbeats 4000000 in
theorem walk_op (n : Int) (a : Option Addr) (cap : Nat) (L : List (Int × (Nat → Int))) (w : World) (hL : L = [] ∨ ∃ b o, a = some ⟨b, o, none⟩ ∧ b < w.heap.size ∧ OpRows w b o L) :
    Calls Try.prog 7 #[.int .i64 n, .slice a L.length cap] w fun e w' => e = .returned (.bool true) ∧ Below w.heap.size w w' := by
  have HL := Lib.hid hL
  clear hL
  go_enter Try.func7, Try.ntmps7
  go_wp2_with fail
  refine Calls.mono (awake19_any _) ?_
  rintro e w2 ⟨rfl, hb'⟩
  have K0 := Lib.hid hb'
  clear hb'
  by_cases hlen : (L.length : Int) > 300
  · go_wp2_with fail
    refine Calls.mono (awake19_any _) ?_
    rintro e w3 ⟨rfl, hb'⟩
    have HB3 := Lib.hid (gbelow hb' K0.out)
    clear hb'
    go_wp2
    go_ret
    exact ⟨rfl, HB3.out⟩
  go_wp2_with fail
  refine Calls.mono (mnew_any n w2) ?_
  rintro e w3 ⟨rfl, hb', hm⟩
  have hlt2 : w.heap.size ≤ w2.heap.size := K0.out.size
  replace K0 := Lib.hid (gbelow hb' K0.out)
  have k1 : MX w3 w2.heap.size (dimI n) zM := hm
  clear hb' hm
  generalize w2.heap.size = ga at *
  go_wp2_with fail
  refine Calls.mono (mnew_any n w3) ?_
  rintro e w4 ⟨rfl, hb', hm⟩
  have hltab : ga < w3.heap.size := (Array.getElem?_eq_some_iff.1 (show w3.heap[ga]? = _ from k1)).1
  replace K0 := Lib.hid (gbelow hb' K0.out)
  have K1 : Hid (MX w4 ga (dimI n) (runM (dimI n) zM (L.take 0))) := Lib.hid (gblk hb' k1)
  have K2 : Hid (MX w4 w3.heap.size (dimI n) (runM (dimI n) zM (L.reverse.take 0))) := Lib.hid hm
  clear hb' hm k1
  generalize w3.heap.size = gb at *
  have hdn := dimI_bd n
  generalize dimI n = dn at *
  generalize hgw : w.heap.size = gw at *
  go_wp2_with fail
  go_loopw [30] (fun i wr => ∃ k : Nat, k ≤ L.length ∧ i = .int .i64 k ∧ Below gw w wr ∧ gb < wr.heap.size ∧ MX wr ga dn (runM dn zM (L.take k)) ∧ MX wr gb dn (runM dn zM (L.reverse.take k))) (fun i _ => L.length - (intOf i).toNat)
  case atStart => exact ⟨0, by omega, rfl, K0.out, (Array.getElem?_eq_some_iff.1 (show w4.heap[gb]? = _ from K2.out)).1, K1.out, K2.out⟩
  case round =>
    obtain ⟨k, hk, rfl, k0, hgb, k1, k2⟩ := hrel
    by_cases hlt : k < L.length
    · rcases HL.out with h0 | ⟨b, o, rfl, hbw, hrows⟩
      · rw [h0] at hlt; simp at hlt
      obtain ⟨q, hq⟩ : ∃ q : Nat, q = L.length - 1 - k := ⟨_, rfl⟩
      have hql : q < L.length := by omega
      have hrk := (hrows.keep (k0.mono (Nat.le_of_eq hgw))) k hlt
      have hrq := (hrows.keep (k0.mono (Nat.le_of_eq hgw))) q hql
      have E := Lib.hid (runM_succ dn zM L hlt)
      have F := Lib.hid (runM_succ dn zM L.reverse (k := k) (by simpa using hlt))
      rw [show L.reverse[k]'(by simpa using hlt) = L[q] by rw [List.getElem_reverse]; congr 1; exact hq.symm] at F
      obtain ⟨c1, c2⟩ := hrk
      obtain ⟨d1, d2⟩ := hrq
      have hqi : (L.length : Int) - 1 - k = q := by omega
      clear hrows hq
      generalize L[k].1 = r at *
      generalize L[k].2 = v at *
      generalize L[q].1 = r2 at *
      generalize L[q].2 = v2 at *
      generalize runM dn zM (L.take k) = M at *
      generalize runM dn zM (L.reverse.take k) = N at *
      have hql2 : (q : Int) < L.length := by omega
      have hne : gb ≠ ga := by omega
      have hne2 : ga ≠ gb := by omega
      have hba : b ≠ ga := by omega
      have hbb : b ≠ gb := by omega
      have P0 := Lib.hid k0
      clear k0
      go_wp2_with fail
      refine wp_region_heldK (s := 23) (S := fun w' => (Below gw w w' ∧ gb < w'.heap.size) ∧ (MX w' ga dn M ∨ MX w' ga dn (seeM dn M r v)) ∧ MX w' gb dn N ∧ w'.cell? ⟨b, o + k * 17, none⟩ = some (.int .i64 r) ∧ rowN 16 w' b (o + k * 17 + 1) = some (vv v) ∧ w'.cell? ⟨b, o + q * 17, none⟩ = some (.int .i64 r2) ∧ rowN 16 w' b (o + q * 17 + 1) = some (vv v2)) (by kernel_rfl) ⟨⟨P0.out.drew, hgb⟩, .inl k1, k2, c1, c2, d1, d2⟩ (fun hHeld => ?_)
      refine wpAnyC_take (i := 0) (v := ?_) rfl (by kernel_rfl) (by kernel_rfl) (by kernel_rfl) (by kernel_rfl) (by kernel_rfl) (by kernel_rfl) (fun _ _ _ h => h) (Or.inl ⟨by rfl, ?_⟩) hHeld ?_
      rotate_left
      · intro w hSw; (try dsimp only at hSw); (try simp only [List.getElem_toArray, List.getElem_cons_succ, List.getElem_cons_zero]); (go_simp; try with_reducible rfl)
      try simp only [List.getElem_toArray, List.getElem_cons_succ, List.getElem_cons_zero, Act.put, List.setIfInBounds_toArray, List.set_cons_zero, List.set_cons_succ]
      refine wpAnyC_take (i := 1) (v := ?_) rfl (by kernel_rfl) (by kernel_rfl) (by kernel_rfl) (by kernel_rfl) (by kernel_rfl) (by kernel_rfl) (fun _ _ _ h => h) (Or.inl ⟨by rfl, ?_⟩) hHeld ?_
      rotate_left
      · intro w hSw; (try dsimp only at hSw); (try simp only [List.getElem_toArray, List.getElem_cons_succ, List.getElem_cons_zero]); (go_simp; try with_reducible rfl)
      try simp only [List.getElem_toArray, List.getElem_cons_succ, List.getElem_cons_zero, Act.put, List.setIfInBounds_toArray, List.set_cons_zero, List.set_cons_succ]
      refine wpAnyC_take (i := 2) (v := ?_) rfl (by kernel_rfl) (by kernel_rfl) (by kernel_rfl) (by kernel_rfl) (by kernel_rfl) (by kernel_rfl) (fun _ _ _ h => h) (Or.inl ⟨by rfl, ?_⟩) hHeld ?_
      rotate_left
      · intro w hSw; (try dsimp only at hSw); (try simp only [List.getElem_toArray, List.getElem_cons_succ, List.getElem_cons_zero]); (go_simp; try with_reducible rfl)
      try simp only [List.getElem_toArray, List.getElem_cons_succ, List.getElem_cons_zero, Act.put, List.setIfInBounds_toArray, List.set_cons_zero, List.set_cons_succ]
      refine wpAnyC_take (i := 3) (v := ?_) rfl (by kernel_rfl) (by kernel_rfl) (by kernel_rfl) (by kernel_rfl) (by kernel_rfl) (by kernel_rfl) (fun _ _ _ h => h) (Or.inl ⟨by rfl, ?_⟩) hHeld ?_
      rotate_left
      · intro w hSw; (try dsimp only at hSw); (try simp only [List.getElem_toArray, List.getElem_cons_succ, List.getElem_cons_zero]); (go_simp; try with_reducible rfl)
      try simp only [List.getElem_toArray, List.getElem_cons_succ, List.getElem_cons_zero, Act.put, List.setIfInBounds_toArray, List.set_cons_zero, List.set_cons_succ]
      refine wpAnyC_take (i := 4) (v := ?_) rfl (by kernel_rfl) (by kernel_rfl) (by kernel_rfl) (by kernel_rfl) (by kernel_rfl) (by kernel_rfl) (fun _ _ _ h => h) (Or.inl ⟨by rfl, ?_⟩) hHeld ?_
      rotate_left
      · intro w hSw; (try dsimp only at hSw); (try simp only [List.getElem_toArray, List.getElem_cons_succ, List.getElem_cons_zero]); (go_simp; try with_reducible rfl)
      try simp only [List.getElem_toArray, List.getElem_cons_succ, List.getElem_cons_zero, Act.put, List.setIfInBounds_toArray, List.set_cons_zero, List.set_cons_succ]
      refine wpAnyC_take (i := 5) (v := ?_) rfl (by kernel_rfl) (by kernel_rfl) (by kernel_rfl) (by kernel_rfl) (by kernel_rfl) (by kernel_rfl) (fun _ _ _ h => h) (Or.inl ⟨by rfl, ?_⟩) hHeld ?_
      rotate_left
      · intro w hSw; (try dsimp only at hSw); (try simp only [List.getElem_toArray, List.getElem_cons_succ, List.getElem_cons_zero]); (go_simp; try with_reducible rfl)
      try simp only [List.getElem_toArray, List.getElem_cons_succ, List.getElem_cons_zero, Act.put, List.setIfInBounds_toArray, List.set_cons_zero, List.set_cons_succ]
      refine wpAnyC_take (i := 6) (v := ?_) rfl (by kernel_rfl) (by kernel_rfl) (by kernel_rfl) (by kernel_rfl) (by kernel_rfl) (by kernel_rfl) (fun _ _ _ h => h) (Or.inl ⟨by rfl, ?_⟩) hHeld ?_
      rotate_left
      · intro w hSw; (try dsimp only at hSw); (try simp only [List.getElem_toArray, List.getElem_cons_succ, List.getElem_cons_zero]); (go_simp; try with_reducible rfl)
      try simp only [List.getElem_toArray, List.getElem_cons_succ, List.getElem_cons_zero, Act.put, List.setIfInBounds_toArray, List.set_cons_zero, List.set_cons_succ]
      refine wpAnyC_take (i := 7) (v := ?_) rfl (by kernel_rfl) (by kernel_rfl) (by kernel_rfl) (by kernel_rfl) (by kernel_rfl) (by kernel_rfl) (fun _ _ _ h => h) (Or.inl ⟨by rfl, ?_⟩) hHeld ?_
      rotate_left
      · intro w hSw; (try dsimp only at hSw); (try simp only [List.getElem_toArray, List.getElem_cons_succ, List.getElem_cons_zero]); (go_simp; try with_reducible rfl)
      try simp only [List.getElem_toArray, List.getElem_cons_succ, List.getElem_cons_zero, Act.put, List.setIfInBounds_toArray, List.set_cons_zero, List.set_cons_succ]
      refine wpAnyC_take (i := 8) (v := ?_) rfl (by kernel_rfl) (by kernel_rfl) (by kernel_rfl) (by kernel_rfl) (by kernel_rfl) (by kernel_rfl) (fun _ _ _ h => h) (Or.inl ⟨by rfl, ?_⟩) hHeld ?_
      rotate_left
      · intro w hSw; (try dsimp only at hSw); (try simp only [List.getElem_toArray, List.getElem_cons_succ, List.getElem_cons_zero]); (go_simp; try with_reducible rfl)
      try simp only [List.getElem_toArray, List.getElem_cons_succ, List.getElem_cons_zero, Act.put, List.setIfInBounds_toArray, List.set_cons_zero, List.set_cons_succ]
      refine wpAnyC_take (i := 9) (v := ?_) rfl (by kernel_rfl) (by kernel_rfl) (by kernel_rfl) (by kernel_rfl) (by kernel_rfl) (by kernel_rfl) (fun _ _ _ h => h) (Or.inl ⟨by rfl, ?_⟩) hHeld ?_
      rotate_left
      · intro w hSw; (try dsimp only at hSw); (try simp only [List.getElem_toArray, List.getElem_cons_succ, List.getElem_cons_zero]); (go_simp; try with_reducible rfl)
      try simp only [List.getElem_toArray, List.getElem_cons_succ, List.getElem_cons_zero, Act.put, List.setIfInBounds_toArray, List.set_cons_zero, List.set_cons_succ]
      refine wpAnyC_take (i := 10) (v := ?_) rfl (by kernel_rfl) (by kernel_rfl) (by kernel_rfl) (by kernel_rfl) (by kernel_rfl) (by kernel_rfl) (fun _ _ _ h => h) (Or.inl ⟨by rfl, ?_⟩) hHeld ?_
      rotate_left
      · intro w hSw; (try dsimp only at hSw); (try simp only [List.getElem_toArray, List.getElem_cons_succ, List.getElem_cons_zero]); (go_simp; try with_reducible rfl)
      try simp only [List.getElem_toArray, List.getElem_cons_succ, List.getElem_cons_zero, Act.put, List.setIfInBounds_toArray, List.set_cons_zero, List.set_cons_succ]
      refine wpAnyC_take (i := 12) (v := ?_) rfl (by kernel_rfl) (by kernel_rfl) (by kernel_rfl) (by kernel_rfl) (by kernel_rfl) (by kernel_rfl) (fun _ _ _ h => h) (Or.inl ⟨by rfl, ?_⟩) hHeld ?_
      rotate_left
      · intro w hSw; (try dsimp only at hSw); (try simp only [List.getElem_toArray, List.getElem_cons_succ, List.getElem_cons_zero]); (go_simp; try with_reducible rfl)
      try simp only [List.getElem_toArray, List.getElem_cons_succ, List.getElem_cons_zero, Act.put, List.setIfInBounds_toArray, List.set_cons_zero, List.set_cons_succ]
      refine wpAnyC_take (i := 13) (v := ?_) rfl (by kernel_rfl) (by kernel_rfl) (by kernel_rfl) (by kernel_rfl) (by kernel_rfl) (by kernel_rfl) (fun _ _ _ h => h) (Or.inl ⟨by rfl, ?_⟩) hHeld ?_
      rotate_left
      · intro w hSw; (try dsimp only at hSw); (try simp only [List.getElem_toArray, List.getElem_cons_succ, List.getElem_cons_zero]); (go_simp; try with_reducible rfl)
      try simp only [List.getElem_toArray, List.getElem_cons_succ, List.getElem_cons_zero, Act.put, List.setIfInBounds_toArray, List.set_cons_zero, List.set_cons_succ]
      refine wpAnyC_take (i := 14) (v := ?_) rfl (by kernel_rfl) (by kernel_rfl) (by kernel_rfl) (by kernel_rfl) (by kernel_rfl) (by kernel_rfl) (fun _ _ _ h => h) (Or.inl ⟨by rfl, ?_⟩) hHeld ?_
      rotate_left
      · intro w hSw; (try dsimp only at hSw); (try simp only [List.getElem_toArray, List.getElem_cons_succ, List.getElem_cons_zero]); (go_simp; try with_reducible rfl)
      try simp only [List.getElem_toArray, List.getElem_cons_succ, List.getElem_cons_zero, Act.put, List.setIfInBounds_toArray, List.set_cons_zero, List.set_cons_succ]
      refine wpAnyC_take (i := 15) (v := ?_) rfl (by kernel_rfl) (by kernel_rfl) (by kernel_rfl) (by kernel_rfl) (by kernel_rfl) (by kernel_rfl) (fun _ _ _ h => h) (Or.inl ⟨by rfl, ?_⟩) hHeld ?_
      rotate_left
      · intro w hSw; (try dsimp only at hSw); (try simp only [List.getElem_toArray, List.getElem_cons_succ, List.getElem_cons_zero]); (go_simp; try with_reducible rfl)
      try simp only [List.getElem_toArray, List.getElem_cons_succ, List.getElem_cons_zero, Act.put, List.setIfInBounds_toArray, List.set_cons_zero, List.set_cons_succ]
      refine wpAnyC_take (i := 16) (v := ?_) rfl (by kernel_rfl) (by kernel_rfl) (by kernel_rfl) (by kernel_rfl) (by kernel_rfl) (by kernel_rfl) (fun _ _ _ h => h) (Or.inl ⟨by rfl, ?_⟩) hHeld ?_
      rotate_left
      · intro w hSw; (try dsimp only at hSw); (try simp only [List.getElem_toArray, List.getElem_cons_succ, List.getElem_cons_zero]); (go_simp; try with_reducible rfl)
      try simp only [List.getElem_toArray, List.getElem_cons_succ, List.getElem_cons_zero, Act.put, List.setIfInBounds_toArray, List.set_cons_zero, List.set_cons_succ]
      refine wpAnyC_take (i := 17) (v := ?_) rfl (by kernel_rfl) (by kernel_rfl) (by kernel_rfl) (by kernel_rfl) (by kernel_rfl) (by kernel_rfl) (fun _ _ _ h => h) (Or.inl ⟨by rfl, ?_⟩) hHeld ?_
      rotate_left
      · intro w hSw; (try dsimp only at hSw); (try simp only [List.getElem_toArray, List.getElem_cons_succ, List.getElem_cons_zero]); (go_simp; try with_reducible rfl)
      try simp only [List.getElem_toArray, List.getElem_cons_succ, List.getElem_cons_zero, Act.put, List.setIfInBounds_toArray, List.set_cons_zero, List.set_cons_succ]
      refine wpAnyC_take (i := 18) (v := ?_) rfl (by kernel_rfl) (by kernel_rfl) (by kernel_rfl) (by kernel_rfl) (by kernel_rfl) (by kernel_rfl) (fun _ _ _ h => h) (Or.inl ⟨by rfl, ?_⟩) hHeld ?_
      rotate_left
      · intro w hSw; (try dsimp only at hSw); (try simp only [List.getElem_toArray, List.getElem_cons_succ, List.getElem_cons_zero]); (go_simp; try with_reducible rfl)
      try simp only [List.getElem_toArray, List.getElem_cons_succ, List.getElem_cons_zero, Act.put, List.setIfInBounds_toArray, List.set_cons_zero, List.set_cons_succ]
      refine wpAnyC_take (i := 19) (v := ?_) rfl (by kernel_rfl) (by kernel_rfl) (by kernel_rfl) (by kernel_rfl) (by kernel_rfl) (by kernel_rfl) (fun _ _ _ h => h) (Or.inl ⟨by rfl, ?_⟩) hHeld ?_
      rotate_left
      · intro w hSw; (try dsimp only at hSw); (try simp only [List.getElem_toArray, List.getElem_cons_succ, List.getElem_cons_zero]); (go_simp; try with_reducible rfl)
      try simp only [List.getElem_toArray, List.getElem_cons_succ, List.getElem_cons_zero, Act.put, List.setIfInBounds_toArray, List.set_cons_zero, List.set_cons_succ]
      refine wpAnyC_take (i := 20) (v := ?_) rfl (by kernel_rfl) (by kernel_rfl) (by kernel_rfl) (by kernel_rfl) (by kernel_rfl) (by kernel_rfl) (fun _ _ _ h => h) (Or.inl ⟨by rfl, ?_⟩) hHeld ?_
      rotate_left
      · intro w hSw; (try dsimp only at hSw); (try simp only [List.getElem_toArray, List.getElem_cons_succ, List.getElem_cons_zero]); (go_simp; try with_reducible rfl)
      try simp only [List.getElem_toArray, List.getElem_cons_succ, List.getElem_cons_zero, Act.put, List.setIfInBounds_toArray, List.set_cons_zero, List.set_cons_succ]
      refine wpAnyC_take (i := 21) (v := ?_) rfl (by kernel_rfl) (by kernel_rfl) (by kernel_rfl) (by kernel_rfl) (by kernel_rfl) (by kernel_rfl) (fun _ _ _ h => h) (Or.inl ⟨by rfl, ?_⟩) hHeld ?_
      rotate_left
      · intro w hSw; (try dsimp only at hSw); (try simp only [List.getElem_toArray, List.getElem_cons_succ, List.getElem_cons_zero]); (go_simp; try with_reducible rfl)
      try simp only [List.getElem_toArray, List.getElem_cons_succ, List.getElem_cons_zero, Act.put, List.setIfInBounds_toArray, List.set_cons_zero, List.set_cons_succ]
      refine wpAnyC_take (i := 22) (v := ?_) rfl (by kernel_rfl) (by kernel_rfl) (by kernel_rfl) (by kernel_rfl) (by kernel_rfl) (by kernel_rfl) (fun _ _ _ h => h) (Or.inl ⟨by rfl, ?_⟩) hHeld ?_
      rotate_left
      · intro w hSw; (try dsimp only at hSw); (try simp only [List.getElem_toArray, List.getElem_cons_succ, List.getElem_cons_zero]); (go_simp; try with_reducible rfl)
      try simp only [List.getElem_toArray, List.getElem_cons_succ, List.getElem_cons_zero, Act.put, List.setIfInBounds_toArray, List.set_cons_zero, List.set_cons_succ]
      refine wpAnyK_one (i := 11) (by kernel_rfl) rfl (fun K hK => ?_)
      (try simp only [List.getElem_toArray, List.getElem_cons_succ, List.getElem_cons_zero])
      go_simp
      (refine Calls.mono (see2 ga dn r v M _ hdn.2 hHeld.2.1) ?_; rintro x w6 ⟨rfl, hm, hb'⟩)
      have hNew := (show (_ ∧ _) ∧ (MX w6 ga dn M ∨ _) ∧ _ ∧ _ ∧ _ ∧ _ ∧ _ from ⟨⟨grown_new hb' (by have := hHeld.1.2; omega) (by omega) hHeld.1.1, Nat.lt_of_lt_of_le hHeld.1.2 hb'.size⟩, Or.inr hm, grown_blk hb' hne hHeld.2.2.1, hb'.cell hHeld.2.2.2.1 (fun e => hba (by simpa using e)), rowN_grown hb' hba hHeld.2.2.2.2.1, hb'.cell hHeld.2.2.2.2.2.1 (fun e => hba (by simpa using e)), rowN_grown hb' hba hHeld.2.2.2.2.2.2⟩)
      refine hK.out _ _ (Or.inr hNew) ?_
      clear hK K hHeld hb'
      have hHeld := hNew
      clear hNew
      try simp only [List.getElem_toArray, List.getElem_cons_succ, List.getElem_cons_zero, Act.put, List.setIfInBounds_toArray, List.set_cons_zero, List.set_cons_succ]
      skip
      refine wpAnyK_one (i := 23) (by kernel_rfl) rfl (fun K hK => ?_)
      (try simp only [List.getElem_toArray, List.getElem_cons_succ, List.getElem_cons_zero])
      go_simp
      (refine Calls.mono (see2 ga dn r v M _ hdn.2 hHeld.2.1) ?_; rintro x w6 ⟨rfl, hm, hb'⟩)
      refine hK.out _ _ (Or.inl (by kernel_rfl)) ?_
      clear hK K
      try simp only [List.getElem_toArray, List.getElem_cons_succ, List.getElem_cons_zero, Act.put, List.setIfInBounds_toArray, List.set_cons_zero, List.set_cons_succ]
      refine wpAnyK_one (i := 24) (by kernel_rfl) rfl (fun K hK => ?_)
      (try simp only [List.getElem_toArray, List.getElem_cons_succ, List.getElem_cons_zero])
      go_simp
      refine hK.out _ _ (Or.inl (by kernel_rfl)) ?_
      clear hK K
      try simp only [List.getElem_toArray, List.getElem_cons_succ, List.getElem_cons_zero, Act.put, List.setIfInBounds_toArray, List.set_cons_zero, List.set_cons_succ]
      refine wpAnyK_done (by kernel_rfl) ?_ _
      have Q0 := grown_new hb' (by have := hHeld.1.2; omega) (by omega) hHeld.1.1
      have Q1 := Nat.lt_of_lt_of_le hHeld.1.2 hb'.size
      have Q3 : MX w6 gb dn N := grown_blk hb' hne hHeld.2.2.1
      have Q4 := hb'.cell hHeld.2.2.2.2.2.1 (fun e => hba (by simpa using e))
      have Q5 := rowN_grown hb' hba hHeld.2.2.2.2.2.2
      have Q2 : MX w6 ga dn (runM dn zM (L.take (k + 1))) := by rw [E.out]; exact hm
      have PQ := Lib.hid Q0
      clear hHeld hb' hm P0 k1 k2 c1 c2 d1 d2 Q0
      go_wp2_with fail
      refine wp_region_heldK (s := 11) (S := fun w' => (Below gw w w' ∧ gb < w'.heap.size) ∧ MX w' ga dn (runM dn zM (L.take (k + 1))) ∧ MX w' gb dn N ∧ w'.cell? ⟨b, o + q * 17, none⟩ = some (.int .i64 r2) ∧ rowN 16 w' b (o + q * 17 + 1) = some (vv v2)) (by kernel_rfl) ⟨⟨PQ.out.drew, Q1⟩, Q2, Q3, Q4, Q5⟩ (fun hHeld => ?_)
      refine wpAnyC_take (i := 0) (v := ?_) rfl (by kernel_rfl) (by kernel_rfl) (by kernel_rfl) (by kernel_rfl) (by kernel_rfl) (by kernel_rfl) (fun _ _ _ h => h) (Or.inl ⟨by rfl, ?_⟩) hHeld ?_
      rotate_left
      · intro w hSw; (try dsimp only at hSw); (try simp only [List.getElem_toArray, List.getElem_cons_succ, List.getElem_cons_zero]); (go_simp; try with_reducible rfl)
      try simp only [List.getElem_toArray, List.getElem_cons_succ, List.getElem_cons_zero, Act.put, List.setIfInBounds_toArray, List.set_cons_zero, List.set_cons_succ]
      refine wpAnyC_take (i := 1) (v := ?_) rfl (by kernel_rfl) (by kernel_rfl) (by kernel_rfl) (by kernel_rfl) (by kernel_rfl) (by kernel_rfl) (fun _ _ _ h => h) (Or.inl ⟨by rfl, ?_⟩) hHeld ?_
      rotate_left
      · intro w hSw; (try dsimp only at hSw); (try simp only [List.getElem_toArray, List.getElem_cons_succ, List.getElem_cons_zero]); (go_simp; try with_reducible rfl)
      try simp only [List.getElem_toArray, List.getElem_cons_succ, List.getElem_cons_zero, Act.put, List.setIfInBounds_toArray, List.set_cons_zero, List.set_cons_succ]
      refine wpAnyC_take (i := 2) (v := ?_) rfl (by kernel_rfl) (by kernel_rfl) (by kernel_rfl) (by kernel_rfl) (by kernel_rfl) (by kernel_rfl) (fun _ _ _ h => h) (Or.inl ⟨by rfl, ?_⟩) hHeld ?_
      rotate_left
      · intro w hSw; (try dsimp only at hSw); (try simp only [List.getElem_toArray, List.getElem_cons_succ, List.getElem_cons_zero]); (go_simp; try with_reducible rfl)
      try simp only [List.getElem_toArray, List.getElem_cons_succ, List.getElem_cons_zero, Act.put, List.setIfInBounds_toArray, List.set_cons_zero, List.set_cons_succ]
      refine wpAnyC_take (i := 3) (v := ?_) rfl (by kernel_rfl) (by kernel_rfl) (by kernel_rfl) (by kernel_rfl) (by kernel_rfl) (by kernel_rfl) (fun _ _ _ h => h) (Or.inl ⟨by rfl, ?_⟩) hHeld ?_
      rotate_left
      · intro w hSw; (try dsimp only at hSw); (try simp only [List.getElem_toArray, List.getElem_cons_succ, List.getElem_cons_zero]); (go_simp; try with_reducible rfl)
      try simp only [List.getElem_toArray, List.getElem_cons_succ, List.getElem_cons_zero, Act.put, List.setIfInBounds_toArray, List.set_cons_zero, List.set_cons_succ]
      refine wpAnyC_take (i := 4) (v := ?_) rfl (by kernel_rfl) (by kernel_rfl) (by kernel_rfl) (by kernel_rfl) (by kernel_rfl) (by kernel_rfl) (fun _ _ _ h => h) (Or.inl ⟨by rfl, ?_⟩) hHeld ?_
      rotate_left
      · intro w hSw; (try dsimp only at hSw); (try simp only [List.getElem_toArray, List.getElem_cons_succ, List.getElem_cons_zero]); (go_simp; try with_reducible rfl)
      try simp only [List.getElem_toArray, List.getElem_cons_succ, List.getElem_cons_zero, Act.put, List.setIfInBounds_toArray, List.set_cons_zero, List.set_cons_succ]
      refine wpAnyC_take (i := 5) (v := ?_) rfl (by kernel_rfl) (by kernel_rfl) (by kernel_rfl) (by kernel_rfl) (by kernel_rfl) (by kernel_rfl) (fun _ _ _ h => h) (Or.inl ⟨by rfl, ?_⟩) hHeld ?_
      rotate_left
      · intro w hSw; (try dsimp only at hSw); (try simp only [List.getElem_toArray, List.getElem_cons_succ, List.getElem_cons_zero]); (go_simp; try with_reducible rfl)
      try simp only [List.getElem_toArray, List.getElem_cons_succ, List.getElem_cons_zero, Act.put, List.setIfInBounds_toArray, List.set_cons_zero, List.set_cons_succ]
      refine wpAnyC_take (i := 6) (v := ?_) rfl (by kernel_rfl) (by kernel_rfl) (by kernel_rfl) (by kernel_rfl) (by kernel_rfl) (by kernel_rfl) (fun _ _ _ h => h) (Or.inl ⟨by rfl, ?_⟩) hHeld ?_
      rotate_left
      · intro w hSw; (try dsimp only at hSw); (try simp only [List.getElem_toArray, List.getElem_cons_succ, List.getElem_cons_zero]); (go_simp; try with_reducible rfl)
      try simp only [List.getElem_toArray, List.getElem_cons_succ, List.getElem_cons_zero, Act.put, List.setIfInBounds_toArray, List.set_cons_zero, List.set_cons_succ]
      refine wpAnyC_take (i := 7) (v := ?_) rfl (by kernel_rfl) (by kernel_rfl) (by kernel_rfl) (by kernel_rfl) (by kernel_rfl) (by kernel_rfl) (fun _ _ _ h => h) (Or.inl ⟨by rfl, ?_⟩) hHeld ?_
      rotate_left
      · intro w hSw; (try dsimp only at hSw); (try simp only [List.getElem_toArray, List.getElem_cons_succ, List.getElem_cons_zero]); (go_simp; try with_reducible rfl)
      try simp only [List.getElem_toArray, List.getElem_cons_succ, List.getElem_cons_zero, Act.put, List.setIfInBounds_toArray, List.set_cons_zero, List.set_cons_succ]
      refine wpAnyC_take (i := 8) (v := ?_) rfl (by kernel_rfl) (by kernel_rfl) (by kernel_rfl) (by kernel_rfl) (by kernel_rfl) (by kernel_rfl) (fun _ _ _ h => h) (Or.inl ⟨by rfl, ?_⟩) hHeld ?_
      rotate_left
      · intro w hSw; (try dsimp only at hSw); (try simp only [List.getElem_toArray, List.getElem_cons_succ, List.getElem_cons_zero]); (go_simp; try with_reducible rfl)
      try simp only [List.getElem_toArray, List.getElem_cons_succ, List.getElem_cons_zero, Act.put, List.setIfInBounds_toArray, List.set_cons_zero, List.set_cons_succ]
      refine wpAnyC_take (i := 9) (v := ?_) rfl (by kernel_rfl) (by kernel_rfl) (by kernel_rfl) (by kernel_rfl) (by kernel_rfl) (by kernel_rfl) (fun _ _ _ h => h) (Or.inl ⟨by rfl, ?_⟩) hHeld ?_
      rotate_left
      · intro w hSw; (try dsimp only at hSw); (try simp only [List.getElem_toArray, List.getElem_cons_succ, List.getElem_cons_zero]); (go_simp; try with_reducible rfl)
      try simp only [List.getElem_toArray, List.getElem_cons_succ, List.getElem_cons_zero, Act.put, List.setIfInBounds_toArray, List.set_cons_zero, List.set_cons_succ]
      refine wpAnyC_take (i := 10) (v := ?_) rfl (by kernel_rfl) (by kernel_rfl) (by kernel_rfl) (by kernel_rfl) (by kernel_rfl) (by kernel_rfl) (fun _ _ _ h => h) (Or.inl ⟨by rfl, ?_⟩) hHeld ?_
      rotate_left
      · intro w hSw; (try dsimp only at hSw); (try simp only [List.getElem_toArray, List.getElem_cons_succ, List.getElem_cons_zero]); (go_simp; try with_reducible rfl)
      try simp only [List.getElem_toArray, List.getElem_cons_succ, List.getElem_cons_zero, Act.put, List.setIfInBounds_toArray, List.set_cons_zero, List.set_cons_succ]
      skip
      refine wpAnyK_one (i := 11) (by kernel_rfl) rfl (fun K hK => ?_)
      (try simp only [List.getElem_toArray, List.getElem_cons_succ, List.getElem_cons_zero])
      go_simp
      (refine Calls.mono (msee_any gb dn r2 v2 N _ hdn.2 hHeld.2.2.1) ?_; rintro x w7 ⟨rfl, hm, hb'⟩)
      refine hK.out _ _ (Or.inl (by kernel_rfl)) ?_
      clear hK K
      try simp only [List.getElem_toArray, List.getElem_cons_succ, List.getElem_cons_zero, Act.put, List.setIfInBounds_toArray, List.set_cons_zero, List.set_cons_succ]
      refine wpAnyK_done (by kernel_rfl) ?_ _
      have R0 := Lib.hid (grown_new hb' (by have := hHeld.1.2; omega) (by omega) hHeld.1.1)
      have R1 := Lib.hid (Nat.lt_of_lt_of_le hHeld.1.2 hb'.size)
      have R2 : Hid (MX w7 ga dn (runM dn zM (L.take (k + 1)))) := Lib.hid (grown_blk hb' hne2 hHeld.2.1)
      have R3 : Hid (MX w7 gb dn (runM dn zM (L.reverse.take (k + 1)))) := Lib.hid (by rw [F.out]; exact hm)
      clear hHeld hb' hm Q1 Q2 Q3 Q4 Q5 PQ
      go_wp2
      first
        | go_roundw
        | skip
      case rel => exact ⟨k + 1, by omega, by go_num, R0.out, R1.out, R2.out, R3.out⟩
      case measure => simp [intOf]; omega
    · have e : k = L.length := by omega
      subst e
      have K1' := Lib.hid k1
      have K2' := Lib.hid k2
      clear k1 k2
      rw [List.take_length] at K1'
      rw [show L.reverse.take L.length = L.reverse by rw [List.take_of_length_le (by simp)], run_rev] at K2'
      generalize runM dn zM L = M at *
      have K0 := Lib.hid k0
      have hsz : gw ≤ wr.heap.size := by omega
      clear k0 hlt hgb
      go_wp2_with fail
      go_loopw [76] (fun i wq => ∃ j : Nat, j ≤ 16 ∧ i = .int .i64 j ∧ Below gw w wq ∧ gw ≤ wq.heap.size ∧ MX wq ga dn M ∧ MX wq gb dn M) (fun i _ => 16 - (intOf i).toNat)
      case atStart => exact ⟨0, by omega, rfl, K0.out, hsz, K1'.out, K2'.out⟩
      case round =>
        obtain ⟨j, hj, rfl, k0, hgj, k1, k2⟩ := hrel
        have P0 := Lib.hid k0
        have P1 := Lib.hid k1
        have P2 := Lib.hid k2
        clear k0 k1 k2
        by_cases hlt : j < 16
        · go_wp2_with fail
          refine Calls.mono (mrow_any ga dn j M _ hdn.2 P1.out) ?_
          rintro e w7 ⟨rfl, hb'⟩
          have Q0 := Lib.hid (gbel hb' P0.out hgj)
          have Q1 : Hid (MX w7 ga dn M) := Lib.hid (gblk hb' P1.out)
          have Q2 : Hid (MX w7 gb dn M) := Lib.hid (gblk hb' P2.out)
          have Q3 := Nat.le_trans hgj hb'.size
          clear hb' P0 P1 P2
          go_wp2_with fail
          refine Calls.mono (mrow_any gb dn j M _ hdn.2 Q2.out) ?_
          rintro e w8 ⟨rfl, hb'⟩
          have R0 := Lib.hid (gbel hb' Q0.out Q3)
          have R1 : Hid (MX w8 ga dn M) := Lib.hid (gblk hb' Q1.out)
          have R2 : Hid (MX w8 gb dn M) := Lib.hid (gblk hb' Q2.out)
          have R3 := Nat.le_trans Q3 hb'.size
          clear hb' Q0 Q1 Q2
          have hsame := same16_refl (rowF dn M j)
          go_wp2
          go_roundw
          case rel => exact ⟨j + 1, by omega, by go_num, R0.out, R3, R1.out, R2.out⟩
          case measure => simp [intOf]; omega
        · go_wp2_with fail
          refine Calls.mono (mstable_any ga dn M _ ⟨by omega, hdn.2⟩ P1.out) ?_
          rintro e w7 ⟨rfl, hb'⟩
          have Q0 := Lib.hid (gbel hb' P0.out hgj)
          have Q2 : Hid (MX w7 gb dn M) := Lib.hid (gblk hb' P2.out)
          have Q3 := Nat.le_trans hgj hb'.size
          clear hb' P0 P1 P2
          go_wp2_with fail
          refine Calls.mono (mstable_any gb dn M _ ⟨by omega, hdn.2⟩ Q2.out) ?_
          rintro e w8 ⟨rfl, hb'⟩
          have R0 := Lib.hid (gbel hb' Q0.out Q3)
          clear hb' Q0 Q2
          have hsame := same16_refl (stabF dn M)
          go_wp2
          go_ret
          first
            | exact ⟨by simp [hsame], R0.out⟩
            | exact ⟨by simp [hsame], R0.out.mono (Nat.le_of_eq hgw)⟩

theorem walk (n : Int) (a : Option Addr) (len cap : Nat) (w : World) (w0 : (Lit.int .i64 n).wf = true) (hl : len ≤ cap) (hm : cap ≤ maxLen) (hr : RowsIn [.int .i64, .int .i64, .int .i64, .int .i64, .int .i64, .int .i64, .int .i64, .int .i64, .int .i64, .int .i64, .int .i64, .int .i64, .int .i64, .int .i64, .int .i64, .int .i64, .int .i64] w a len) :
    Calls Try.prog 7 #[.int .i64 n, .slice a len cap] w fun e w' => e = .returned (.bool true) ∧ Below w.heap.size w w' := by
  obtain ⟨L, rfl, hL, _⟩ := ops_of hl hm hr
  exact walk_op n a cap L w hL

end Go.Proofs.Ythjeginhoddmiaa.matrixOrder
