/- The walk of polyphonylaw20.PeerWaits: it returns true, and what was there is as it was. No conditions. -/
import Derived.Test.YtpdckjfkkiameaaPrAwake
import Derived.Test.YtpdckjfkkiameaaPrSame2
import Derived.Test.YtpdckjfkkiameaaPrChanE
namespace Go.Proofs.Ytpdckjfkkiameaa.peerWaits
open Go.RowKit
attribute [local go_sem] bmax2_int bmin2_int bmax_two bmin_two blk_alloc blk_setRow blk_setCell blk_drew blk_drewN alloc_setRow cell_setRow_ne drew_setRow drewN_setRow fold_z0 vv_size vv_get vv_set
attribute [local go_sem ↓] exec_load_vv exec_store_vv exec_index_vv exec_eql_vv exec_neq_vv
attribute [local go_sem] loadVV_at storeVV_at indexVV_at eqVV_eql eqVV_neq ne_r2 ne_l2 ne_r3 ne_l3 ne_r4 ne_l4 ne_r5 ne_l5 ne_r6 ne_l6 ne_r7 ne_l7 ne_r8 ne_l8
set_option linter.unusedVariables false
set_option linter.unusedSimpArgs false
attribute [local go_sem] rowN_drew fold_zE evA_size evA_get0 evA_get1 evA_get2 evA_get19 evA_get20 evA_get21 evA_get22 evA_get23 evA_get24 evA_get25 loadEv_at storeEv_at rowN_ev_new
attribute [local go_sem ↓] exec_load_ev exec_store_ev
attribute [local go_sem ↓] exec_eql_ev exec_neq_ev
attribute [local go_sem] eqEV_eql eqEV_neq
attribute [local go_sem] fold_zE2

theorem gbel {W W' w0 : World} {B : Nat} (h : Below W.heap.size W W') (hb : Below B w0 W) (hB : B ≤ W.heap.size) : Below B w0 W' := hb.trans (h.mono hB)
/-- events as things in a box. -/
def bufs (M : List Ev) : Array Value := (M.map fun e => Value.agg (evA e)).toArray
theorem bufs_size (M : List Ev) : (bufs M).size = M.length := by simp [bufs]
theorem bufs_push (M : List Ev) (x : Ev) : (bufs M).push (.agg (evA x)) = bufs (M ++ [x]) := by simp [bufs]
theorem bufs_cons (x : Ev) (M : List Ev) : bufs (x :: M) = (Value.agg (evA x) :: M.map fun e => Value.agg (evA e)).toArray := rfl

set_option maxRecDepth 100000 in
set_option maxHeartbeats 4000000 in
theorem walk_ev (x : Value) (ax : Option Addr) (cap : Nat) (L : List Ev) (z : Bool) (w : World) (hx : x = .slice ax L.length cap) (h : EvSl w x L) :
    Calls Try.prog 9 #[x, .bool z] w fun e w' => e = .returned (.bool true) ∧ Below w.heap.size w w' := by
  subst hx
  have HW := Lib.hid h
  have HB : Hid (∀ wr, Below w.heap.size w wr → EvSl wr (.slice ax L.length cap) L) := Lib.hid fun wr hb => h.keep hb
  clear h
  go_enter Try.func9, Try.ntmps9
  go_wp2_with fail
  refine Calls.mono (awake20_any _) ?_
  rintro e w2 ⟨rfl, hb'⟩
  have k0 := Lib.hid hb'
  have hs2 := hb'.size
  clear hb'
  by_cases hlen : (L.length : Int) > 200
  · go_wp2_with fail
    refine Calls.mono (awake20_any _) ?_
    rintro e w3 ⟨rfl, hb'⟩
    replace k0 := Lib.hid (gbelow hb' k0.out)
    clear hb'
    go_wp2
    go_ret
    exact ⟨rfl, k0.out⟩
  go_wp2_with fail
  refine Calls.mono (bnew_ev L.length L.length w2 (by unfold mx mn; split <;> split <;> omega)) ?_
  rintro e w3 ⟨rfl, hb', hbx, hsz⟩
  replace k0 := Lib.hid (gbelow hb' k0.out)
  have K1 : Hid (BXT 81 w3 (w2.heap.size + 1) w2.heap.size L.length (bufs (L.take 0))) := Lib.hid hbx
  clear hb' hbx
  generalize hgw : w.heap.size = gw at *
  generalize w2.heap.size = c at *
  obtain ⟨gb, hgb⟩ : ∃ gb, gb = c + 1 := ⟨_, rfl⟩
  rw [← hgb] at K1 ⊢
  have hgs3 : gw ≤ w3.heap.size := by omega
  have hgbw : gw < gb := by omega
  clear hgb hsz
  go_wp2_with fail
  go_loopw [30] (fun i wr => ∃ k : Nat, k ≤ L.length ∧ i = .int .i64 k ∧ Below gw w wr ∧ gw ≤ wr.heap.size ∧ BXT 81 wr gb c L.length (bufs (L.take k))) (fun i _ => L.length - (intOf i).toNat)
  case atStart => exact ⟨0, by omega, rfl, k0.out, hgs3, K1.out⟩
  case round =>
    obtain ⟨k, hk, rfl, q0, hgs, q1⟩ := hrel
    have Q0 := Lib.hid q0
    have Q1 := Lib.hid q1
    clear q0 q1
    by_cases hlt : k < L.length
    · obtain ⟨b1, o1, rfl, hb1, hr⟩ := (HB.out wr Q0.out).row hlt
      have hsu := Lib.hid (List.take_succ_eq_append_getElem hlt)
      generalize L[k] = x at *
      go_wp2_with fail
      refine Calls.mono (bput_ev gb c L.length _ x wr Q1.out (by rw [bufs_size, List.length_take]; omega)) ?_
      rintro e w4 ⟨rfl, hF, hbx⟩
      have R0 := Lib.hid (hF.below (B := gw) (fun k hk e => by omega) hgs Q0.out)
      have R1 := Lib.hid hbx
      have hgs4 := Nat.le_trans hgs hF.size
      rw [bufs_push, ← hsu.out] at R1
      clear hF hbx Q0 Q1 hr
      go_wp2
      go_roundw
      case rel => exact ⟨k + 1, by omega, by go_num, R0.out, hgs4, R1.out⟩
      case measure => simp [intOf]; omega
    · have e : k = L.length := by omega
      subst e
      rw [List.take_length] at Q1
      go_wp2_with fail
      refine Calls.mono (bput_ev_full gb c L.length _ zE wr Q1.out (by rw [bufs_size]; omega)) ?_
      rintro e w4 ⟨rfl, hF, hbx⟩
      replace Q0 := Lib.hid (hF.below (B := gw) (fun k hk e => by omega) hgs Q0.out)
      have Q2 : Hid (BXT 81 w4 gb c L.length (bufs (L.drop 0))) := Lib.hid hbx
      have hgs4 := Nat.le_trans hgs hF.size
      clear hF hbx Q1 K1 k0
      go_wp2_with fail
      go_loopw [46] (fun i wr => ∃ k : Nat, k ≤ L.length ∧ i = .int .i64 k ∧ Below gw w wr ∧ gw ≤ wr.heap.size ∧ BXT 81 wr gb c L.length (bufs (L.drop k))) (fun i _ => L.length - (intOf i).toNat)
      case atStart => exact ⟨0, by omega, rfl, Q0.out, hgs4, Q2.out⟩
      case round =>
        obtain ⟨k, hk, rfl, q0, hgs, q1⟩ := hrel
        replace Q0 := Lib.hid q0
        have Q1 := Lib.hid q1
        clear q0 q1 Q2
        by_cases hlt2 : k < L.length
        · obtain ⟨b1, o1, rfl, hb1, hr0⟩ := HW.out.row hlt2
          have hr := rowN_keep (Q0.out.mono (Nat.le_of_eq hgw)) hr0
          clear hr0
          have hdr := List.drop_eq_getElem_cons hlt2
          rw [hdr, bufs_cons] at Q1
          clear hdr
          have HN : Hid (((L.drop (k + 1)).map fun e => Value.agg (evA e)).toArray = bufs (L.drop (k + 1))) := Lib.hid rfl
          have hsame := sameEv_refl L[k]
          generalize L[k] = x at *
          go_wp2_with fail
          refine Calls.mono (btake_ev gb c L.length x _ wr Q1.out) ?_
          rintro e w5 ⟨rfl, hF, hbx⟩
          have R0 := Lib.hid (hF.below (B := gw) (fun k hk e => by omega) hgs Q0.out)
          rw [HN.out] at hbx
          have hgs5 := Nat.le_trans hgs hF.size
          have hr5 := hF.rowN (by omega) hr
          clear hF Q0 Q1 hr
          have A0 := Lib.hid (R0.out.alloc hgs5 (Obj.cells (evA x) 39))
          have A1 := Lib.hid (hbx.keep ((Below.refl w5.heap.size w5).alloc (Nat.le_refl _) (Obj.cells (evA x) 39)))
          have A2 := rowN_keep ((Below.refl w5.heap.size w5).alloc (Nat.le_refl _) (Obj.cells (evA x) 39)) hr5
          have A3 := rowN_blk (n := 26) (gblk_new w5 (Obj.cells (evA x) 39)) rfl
          have hgs6 : gw ≤ (w5.alloc (Obj.cells (evA x) 39)).heap.size := by
            have : (w5.alloc (Obj.cells (evA x) 39)).heap.size = w5.heap.size + 1 := by simp
            omega
          clear hr5 R0 hbx
          go_wp2_with fail
          generalize w5.alloc (Obj.cells (evA x) 39) = w6 at *
          generalize w5.heap.size = g8 at *
          refine wp_region_held_drew (S := fun w' => (Below gw w w' ∧ gw ≤ w'.heap.size) ∧ BXT 81 w' gb c L.length (bufs (L.drop (k + 1))) ∧ rowN 26 w' b1 (o1 + k * 26) = some (evA x) ∧ rowN 26 w' g8 0 = some (evA x)) (by kernel_rfl) ⟨⟨A0.out.drew, hgs6⟩, A1.out.fr (w' := w6.drew) ⟨rfl, rfl, rfl, Nat.le_refl _, fun _ _ _ => rfl⟩ (X := fun _ => False) id id, A2, A3⟩ (fun hHeld => ?_)
          refine wpAnyH_take (i := 0) (v := ?_) rfl (by kernel_rfl) (by kernel_rfl) (by kernel_rfl) (fun _ _ _ h => h) (Or.inl ⟨by rfl, ?_⟩) hHeld ?_
          rotate_left
          · intro w hSw; (try dsimp only at hSw); (try simp only [List.getElem_toArray, List.getElem_cons_succ, List.getElem_cons_zero]); (go_simp; try with_reducible rfl)
          try simp only [List.getElem_toArray, List.getElem_cons_succ, List.getElem_cons_zero, Act.put, List.setIfInBounds_toArray, List.set_cons_zero, List.set_cons_succ]
          refine wpAnyH_take (i := 1) (v := ?_) rfl (by kernel_rfl) (by kernel_rfl) (by kernel_rfl) (fun _ _ _ h => h) (Or.inl ⟨by rfl, ?_⟩) hHeld ?_
          rotate_left
          · intro w hSw; (try dsimp only at hSw); (try simp only [List.getElem_toArray, List.getElem_cons_succ, List.getElem_cons_zero]); (go_simp; try with_reducible rfl)
          try simp only [List.getElem_toArray, List.getElem_cons_succ, List.getElem_cons_zero, Act.put, List.setIfInBounds_toArray, List.set_cons_zero, List.set_cons_succ]
          refine wpAnyH_take (i := 2) (v := ?_) rfl (by kernel_rfl) (by kernel_rfl) (by kernel_rfl) (fun _ _ _ h => h) (Or.inl ⟨by rfl, ?_⟩) hHeld ?_
          rotate_left
          · intro w hSw; (try dsimp only at hSw); (try simp only [List.getElem_toArray, List.getElem_cons_succ, List.getElem_cons_zero]); (go_simp; try with_reducible rfl)
          try simp only [List.getElem_toArray, List.getElem_cons_succ, List.getElem_cons_zero, Act.put, List.setIfInBounds_toArray, List.set_cons_zero, List.set_cons_succ]
          refine wpAnyH_take (i := 3) (v := ?_) rfl (by kernel_rfl) (by kernel_rfl) (by kernel_rfl) (fun _ _ _ h => h) (Or.inl ⟨by rfl, ?_⟩) hHeld ?_
          rotate_left
          · intro w hSw; (try dsimp only at hSw); (try simp only [List.getElem_toArray, List.getElem_cons_succ, List.getElem_cons_zero]); (go_simp; try with_reducible rfl)
          try simp only [List.getElem_toArray, List.getElem_cons_succ, List.getElem_cons_zero, Act.put, List.setIfInBounds_toArray, List.set_cons_zero, List.set_cons_succ]
          refine wpAnyH_take (i := 4) (v := ?_) rfl (by kernel_rfl) (by kernel_rfl) (by kernel_rfl) (fun _ _ _ h => h) (Or.inl ⟨by rfl, ?_⟩) hHeld ?_
          rotate_left
          · intro w hSw; (try dsimp only at hSw); (try simp only [List.getElem_toArray, List.getElem_cons_succ, List.getElem_cons_zero]); (go_simp; try with_reducible rfl)
          try simp only [List.getElem_toArray, List.getElem_cons_succ, List.getElem_cons_zero, Act.put, List.setIfInBounds_toArray, List.set_cons_zero, List.set_cons_succ]
          refine wpAnyH_take (i := 5) (v := ?_) rfl (by kernel_rfl) (by kernel_rfl) (by kernel_rfl) (fun _ _ _ h => h) (Or.inl ⟨by rfl, ?_⟩) hHeld ?_
          rotate_left
          · intro w hSw; (try dsimp only at hSw); (try simp only [List.getElem_toArray, List.getElem_cons_succ, List.getElem_cons_zero]); (go_simp; try with_reducible rfl)
          try simp only [List.getElem_toArray, List.getElem_cons_succ, List.getElem_cons_zero, Act.put, List.setIfInBounds_toArray, List.set_cons_zero, List.set_cons_succ]
          refine wpAnyH_take (i := 6) (v := ?_) rfl (by kernel_rfl) (by kernel_rfl) (by kernel_rfl) (fun _ _ _ h => h) (Or.inl ⟨by rfl, ?_⟩) hHeld ?_
          rotate_left
          · intro w hSw; (try dsimp only at hSw); (try simp only [List.getElem_toArray, List.getElem_cons_succ, List.getElem_cons_zero]); (go_simp; try with_reducible rfl)
          try simp only [List.getElem_toArray, List.getElem_cons_succ, List.getElem_cons_zero, Act.put, List.setIfInBounds_toArray, List.set_cons_zero, List.set_cons_succ]
          refine wpAnyH_take (i := 7) (v := ?_) rfl (by kernel_rfl) (by kernel_rfl) (by kernel_rfl) (fun _ _ _ h => h) (Or.inl ⟨by rfl, ?_⟩) hHeld ?_
          rotate_left
          · intro w hSw; (try dsimp only at hSw); (try simp only [List.getElem_toArray, List.getElem_cons_succ, List.getElem_cons_zero]); (go_simp; try with_reducible rfl)
          try simp only [List.getElem_toArray, List.getElem_cons_succ, List.getElem_cons_zero, Act.put, List.setIfInBounds_toArray, List.set_cons_zero, List.set_cons_succ]
          refine wpAnyH_take (i := 8) (v := ?_) rfl (by kernel_rfl) (by kernel_rfl) (by kernel_rfl) (fun _ _ _ h => h) (Or.inl ⟨by rfl, ?_⟩) hHeld ?_
          rotate_left
          · intro w hSw; (try dsimp only at hSw); (try simp only [List.getElem_toArray, List.getElem_cons_succ, List.getElem_cons_zero]); (go_simp; try with_reducible rfl)
          try simp only [List.getElem_toArray, List.getElem_cons_succ, List.getElem_cons_zero, Act.put, List.setIfInBounds_toArray, List.set_cons_zero, List.set_cons_succ]
          refine wpAnyH_take (i := 9) (v := ?_) rfl (by kernel_rfl) (by kernel_rfl) (by kernel_rfl) (fun _ _ _ h => h) (Or.inl ⟨by rfl, ?_⟩) hHeld ?_
          rotate_left
          · intro w hSw; (try dsimp only at hSw); (try simp only [List.getElem_toArray, List.getElem_cons_succ, List.getElem_cons_zero]); (go_simp; try with_reducible rfl)
          try simp only [List.getElem_toArray, List.getElem_cons_succ, List.getElem_cons_zero, Act.put, List.setIfInBounds_toArray, List.set_cons_zero, List.set_cons_succ]
          refine wpAnyH_done (by kernel_rfl) ?_ _
          have Q := Lib.hid hHeld
          clear hHeld A0 A1 A2 A3
          go_wp2
          go_roundw
          case rel => exact ⟨k + 1, by omega, by go_num, Q.out.1.1, Q.out.1.2, Q.out.2.1⟩
          case measure => simp [intOf]; omega
        · have e : k = L.length := by omega
          subst e
          rw [List.drop_length] at Q1
          go_wp2_with fail
          refine Calls.mono (btake_ev_none gb c L.length wr Q1.out) ?_
          rintro e w9 ⟨rfl, hb'⟩
          have K0 := Lib.hid ((gbel hb' Q0.out hgs).alloc (Nat.le_trans hgs hb'.size) (Obj.cells (evA zE) 39))
          have hgs : gw ≤ (w9.alloc (Obj.cells (evA zE) 39)).heap.size := by
            have : (w9.alloc (Obj.cells (evA zE) 39)).heap.size = w9.heap.size + 1 := by simp
            have := hb'.size
            omega
          clear hb' Q0 Q1
          cases z
          · have KB := K0
            have hgt := hgs
            clear K0 hgs
            go_wp2_with fail
            generalize (w9.alloc (Obj.cells (evA zE) 39)) = w11 at *
            refine Calls.mono (btake_ev_nil _) ?_
            rintro e w12 ⟨rfl, hb'⟩
            replace KB := Lib.hid (gbel hb' KB.out hgt)
            replace hgt := Nat.le_trans hgt hb'.size
            clear hb'
            have kk : Hid (Below gw w (w12.alloc (Obj.cells (evA zE) 39))) := Lib.hid (KB.out.alloc hgt _)
            have hgt2 : gw ≤ (w12.alloc (Obj.cells (evA zE) 39)).heap.size := by
              have : (w12.alloc (Obj.cells (evA zE) 39)).heap.size = w12.heap.size + 1 := by simp
              omega
            skip
            go_wp2_with fail
            generalize w12.alloc (Obj.cells (evA zE) 39) = w13 at *
            refine Calls.mono (bput_ev_nil zE _) ?_
            rintro e w14 ⟨rfl, hb'⟩
            replace kk := Lib.hid (gbel hb' kk.out hgt2)
            clear hb'
            go_wp2_with fail
            refine Calls.mono (blen_ev_nil _) ?_
            rintro e w15 ⟨rfl, rfl⟩
            go_wp2
            go_ret
            first
              | exact ⟨rfl, kk.out⟩
              | exact ⟨rfl, kk.out.mono (Nat.le_of_eq hgw)⟩
          · have hz0 := gblk_new (w9.alloc (Obj.cells (evA zE) 39)) (Obj.cells #[.chan none] 81)
            have KB := Lib.hid (K0.out.alloc hgs (Obj.cells #[.chan none] 81))
            have hgt : gw ≤ ((w9.alloc (Obj.cells (evA zE) 39)).alloc (Obj.cells #[.chan none] 81)).heap.size := by
              have h1 : ((w9.alloc (Obj.cells (evA zE) 39)).alloc (Obj.cells #[.chan none] 81)).heap.size = (w9.alloc (Obj.cells (evA zE) 39)).heap.size + 1 := by simp
              omega
            clear K0 hgs
            go_wp2_with fail
            rw [show (w9.alloc (Obj.cells (evA zE) 39)).heap.size = w9.heap.size + 1 by simp] at hz0
            generalize (w9.alloc (Obj.cells (evA zE) 39)).alloc (Obj.cells #[.chan none] 81) = w11 at *
            generalize hg0 : w9.heap.size + 1 = g0 at *
            have hz : BX0 w11 g0 := hz0
            clear hz0 hg0
            refine Calls.mono (btake_ev_zero g0 _ hz) ?_
            rintro e w12 ⟨rfl, hb'⟩
            replace KB := Lib.hid (gbel hb' KB.out hgt)
            replace hgt := Nat.le_trans hgt hb'.size
            replace hz : BX0 w12 g0 := gblk hb' hz
            clear hb'
            have kk : Hid (Below gw w (w12.alloc (Obj.cells (evA zE) 39))) := Lib.hid (KB.out.alloc hgt _)
            have hgt2 : gw ≤ (w12.alloc (Obj.cells (evA zE) 39)).heap.size := by
              have : (w12.alloc (Obj.cells (evA zE) 39)).heap.size = w12.heap.size + 1 := by simp
              omega
            have hz2 : BX0 (w12.alloc (Obj.cells (evA zE) 39)) g0 := gblk_alloc _ hz
            go_wp2_with fail
            generalize w12.alloc (Obj.cells (evA zE) 39) = w13 at *
            refine Calls.mono (bput_ev_zero g0 zE _ hz2) ?_
            rintro e w14 ⟨rfl, hb'⟩
            replace kk := Lib.hid (gbel hb' kk.out hgt2)
            replace hz : BX0 w14 g0 := gblk hb' hz2
            clear hb'
            go_wp2_with fail
            refine Calls.mono (blen_ev_zero g0 _ hz) ?_
            rintro e w15 ⟨rfl, rfl⟩
            go_wp2
            go_ret
            first
              | exact ⟨rfl, kk.out⟩
              | exact ⟨rfl, kk.out.mono (Nat.le_of_eq hgw)⟩

theorem walk (a : Option Addr) (len cap : Nat) (z : Bool) (w : World) (hl : len ≤ cap) (hm : cap ≤ maxLen) (hr : RowsIn [.int .i64, .int .i64, .int .i64, .int .i64, .int .i64, .int .i64, .int .i64, .int .i64, .int .i64, .int .i64, .int .i64, .int .i64, .int .i64, .int .i64, .int .i64, .int .i64, .int .i64, .int .i64, .int .i64, .int .i64, .string, .string, .string, .int .i64, .int .i64, .int .i64] w a len) :
    Calls Try.prog 9 #[.slice a len cap, .bool z] w fun e w' => e = .returned (.bool true) ∧ Below w.heap.size w w' := by
  obtain ⟨L, rfl, hL, _⟩ := evs_of hl hm hr
  exact walk_ev _ a cap L z w rfl hL

end Go.Proofs.Ytpdckjfkkiameaa.peerWaits
