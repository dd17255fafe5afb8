/- The walk of polyphonylaw20.PeerServes: it returns true, and what was there is as it was. No conditions. -/
import Derived.Test.YtpdckjfkkiameaaPrAwake
import Derived.Test.YtpdckjfkkiameaaPrSame2
import Derived.Test.YtpdckjfkkiameaaPrVecs
import Derived.Test.YtpdckjfkkiameaaPrRight
import Derived.RegionTactic
namespace Go.Proofs.Ytpdckjfkkiameaa.peerServes
open Go.RowKit
attribute [local go_sem] bmax2_int bmin2_int bmax_two bmin_two blk_alloc blk_setRow blk_setCell blk_drew blk_drewN alloc_setRow cell_setRow_ne drew_setRow drewN_setRow fold_z0 vv_size vv_get vv_set
attribute [local go_sem ↓] exec_load_vv exec_store_vv exec_index_vv exec_eql_vv exec_neq_vv
attribute [local go_sem] loadVV_at storeVV_at indexVV_at eqVV_eql eqVV_neq ne_r2 ne_l2 ne_r3 ne_l3 ne_r4 ne_l4 ne_r5 ne_l5 ne_r6 ne_l6 ne_r7 ne_l7 ne_r8 ne_l8
set_option linter.unusedVariables false
set_option linter.unusedSimpArgs false
attribute [local go_sem] rowN_drew fold_zE evA_size evA_get0 evA_get1 evA_get2 evA_get19 evA_get20 evA_get21 evA_get22 evA_get23 evA_get24 evA_get25 loadEv_at storeEv_at rowN_ev_new
attribute [local go_sem ↓] exec_load_ev exec_store_ev
theorem fold_vv3 (v : Nat → Int) : Array.foldl (fun (cs : Array Value) (x : Value × Nat) => cs.setIfInBounds x.snd x.fst) #[(vv z0)[0]!, (vv z0)[1]!, (vv z0)[2]!, (vv z0)[3]!, (vv z0)[4]!, (vv z0)[5]!, (vv z0)[6]!, (vv z0)[7]!, (vv z0)[8]!, (vv z0)[9]!, (vv z0)[10]!, (vv z0)[11]!, (vv z0)[12]!, (vv z0)[13]!, (vv z0)[14]!, (vv z0)[15]!] (vv v).zipIdx 0 16 = vv v := by simp [vv]
attribute [local go_sem] fold_vv1 fold_vv2 fold_vv3 loadVV_k

theorem pick (m : Nat) (td sn : Int) (hm0 : 0 < m) : ∃ n kk : Nat, td % (m : Int) = n ∧ sn % ((n : Int) + 1) = kk ∧ n < m ∧ kk ≤ n := by
  obtain ⟨n, hn⟩ := Int.eq_ofNat_of_zero_le (Int.emod_nonneg td (show (m : Int) ≠ 0 by omega))
  have hnm := Int.emod_lt_of_pos td (show (0 : Int) < m by omega)
  rw [hn] at hnm
  obtain ⟨kk, hkk⟩ := Int.eq_ofNat_of_zero_le (Int.emod_nonneg sn (show (n : Int) + 1 ≠ 0 by omega))
  have hkn := Int.emod_lt_of_pos sn (show (0 : Int) < (n : Int) + 1 by omega)
  rw [hkk] at hkn
  exact ⟨n, kk, ‹_›, ‹_›, by omega, by omega⟩
theorem pick8 (bt : Int) : ∃ c : Nat, bt % 8 = c ∧ c < 8 := by
  obtain ⟨c, hc⟩ := Int.eq_ofNat_of_zero_le (Int.emod_nonneg bt (show (8 : Int) ≠ 0 by omega))
  exact ⟨c, hc, by omega⟩
theorem wrap8 {bt : Int} {c : Nat} (h : bt % 8 = c) (hc : c < 8) (h0 : 0 ≤ bt) : IntKind.i64.wrap (1 + IntKind.i64.wrap (bt.tmod 8)) = 1 + (c : Int) := by
  rw [Int.tmod_eq_emod_of_nonneg h0, h]
  have h1 : IntKind.i64.wrap (c : Int) = c := IntWalk.i64_in _ ⟨by omega, by omega⟩
  rw [h1]
  exact IntWalk.i64_in _ ⟨by omega, by omega⟩
theorem told_facts {E : List Ev} {j n c : Nat} {O : List Ev} (hO : ((E.take n).drop j).take (1 + (c : Int)).toNat = O) (hj : j ≤ n) (hn : n ≤ E.length) : O.length ≤ 1 + c ∧ j + O.length ≤ n ∧ (j + O.length = n ∨ 1 ≤ O.length) ∧ ∀ (i : Nat) (h : i < O.length), ∃ h2 : j + i < E.length, O[i] = E[j + i] := by
  subst hO
  have hl : (((E.take n).drop j).take (1 + (c : Int)).toNat).length = min (1 + c) (n - j) := by
    simp only [List.length_take, List.length_drop]
    omega
  refine ⟨by omega, by omega, by omega, fun i h => ⟨by omega, ?_⟩⟩
  simp
theorem gbel {W W' w0 : World} {B : Nat} (h : Below W.heap.size W W') (hb : Below B w0 W) (hB : B ≤ W.heap.size) : Below B w0 W' := hb.trans (h.mono hB)

set_option maxRecDepth 100000 in
set_option maxHeartbeats 4000000 in
theorem walk_ev (x : Value) (ax : Option Addr) (cap : Nat) (L : List Ev) (sn td bt : Int) (w : World) (hx : x = .slice ax L.length cap) (h : EvSl w x L) (hsn : 0 ≤ sn ∧ sn ≤ 18446744073709551615) (htd : 0 ≤ td ∧ td ≤ 18446744073709551615) (hbt : 0 ≤ bt ∧ bt ≤ 255) :
    Calls Try.prog 5 #[x, .int .u64 sn, .int .u64 td, .int .u8 bt] w fun e w' => e = .returned (.bool true) ∧ Below w.heap.size w w' := by
  subst hx
  have HW := Lib.hid h
  clear h
  go_enter Try.func5, Try.ntmps5
  go_wp2_with fail
  refine Calls.mono (awake20_any _) ?_
  rintro e w2 ⟨rfl, hb'⟩
  have k0 := Lib.hid hb'
  have hs2 := hb'.size
  clear hb'
  by_cases hlen : (L.length : Int) > 200
  · go_wp2_with fail
    refine Calls.mono (awake20_any _) ?_
    rintro e w3 ⟨rfl, hb'⟩
    replace k0 := Lib.hid (gbelow hb' k0.out)
    clear hb'
    go_wp2
    go_ret
    exact ⟨rfl, k0.out⟩
  generalize hgw : w.heap.size = gw at *
  go_wp2_with fail
  refine Calls.mono (pnew_any w2) ?_
  rintro e w3 ⟨rfl, rfl⟩
  have k1 := log_new w2 gw hs2
  have kk0 := k0.out.alloc hs2 (Obj.cells #[.slice none 0 0] 31)
  have hgp := k1.lt
  generalize w2.alloc (Obj.cells #[.slice none 0 0] 31) = w3 at *
  generalize w2.heap.size = gp at *
  have hB := (Below.refl w3.heap.size w3).alloc (Nat.le_refl _) (Obj.cells (vv z0) 35)
  have kA := gblk_new w3 (Obj.cells (vv z0) 35)
  have kL := Lib.hid (k1.keep hB)
  have kk1 := gbel hB kk0 (by omega)
  have hg3 : gw ≤ w3.heap.size := by omega
  have hg4 : gw ≤ (w3.alloc (Obj.cells (vv z0) 35)).heap.size := Nat.le_trans hg3 hB.size
  have KB := Lib.hid kk1
  clear k1 kk0 kk1 k0 hB
  have hB := (Below.refl _ _).alloc (Nat.le_refl (w3.alloc (Obj.cells (vv z0) 35)).heap.size) (Obj.cells (vv z0) 35)
  have M0 := Lib.hid (gbel hB KB.out hg4)
  have M1 := Lib.hid (kL.out.keep hB)
  have M2 := Lib.hid (gblk hB kA)
  have M3 := Lib.hid (rowN_blk (n := 16) (gblk_new (w3.alloc (Obj.cells (vv z0) 35)) (Obj.cells (vv z0) 35)) rfl)
  have M4 := Lib.hid (Nat.le_trans hg4 hB.size)
  rw [show (w3.alloc (Obj.cells (vv z0) 35)).heap.size = w3.heap.size + 1 by simp] at M3
  have M5 : Hid (([] : List (Nat → Int)).length ≤ 100000) := Lib.hid (by simp)
  have M6 := Lib.hid (OwnVV.nil ((w3.alloc (Obj.cells (vv z0) 35)).alloc (Obj.cells (vv z0) 35)) (w3.heap.size + 1))
  have M7 : Hid (w3.heap.size + 1 ≤ ((w3.alloc (Obj.cells (vv z0) 35)).alloc (Obj.cells (vv z0) 35)).heap.size) := Lib.hid (by simp)
  go_wp2_with (first
    | (at_builtin; refine wpList_append_vv rfl _ _ rfl (w3.heap.size + 1) (.slice none 0 0) [] z0 (w3.heap.size + 1) 1 rfl rfl M6.out M3.out M5.out M7.out ?_; intro v1 w5 O1 G1; obtain ⟨a1, c1, rfl⟩ := O1.out.form)
    | fail)
  have hFr := Fr.of_grown (X := fun _ => False) G1.out (fun k e => by simp [Value.ownBlock] at e)
  generalize hgA : w3.heap.size = gA at *
  have N0 : Hid (Below gw w w5 ∧ gw ≤ w5.heap.size) := Lib.hid ⟨hFr.below (fun _ _ => id) M4.out M0.out, Nat.le_trans M4.out hFr.size⟩
  have N1 := Lib.hid (M1.out.fr hFr (fun _ _ => id))
  have N2 : Hid (blk w5 gA = some (.cells (vv (vecOf [])) 35)) := Lib.hid (hFr.blk id M2.out)
  have N3 : Hid (OwnVV w5 (gA + 1) (.slice a1 (setOf []).length c1) (setOf [])) := Lib.hid (by rw [setOf_nil]; exact O1.out)
  have hgA2 : gw ≤ gA := by omega
  have N4 : Hid (GoodE []) := Lib.hid GoodE.nil
  clear G1 hFr M0 M1 M2 M3 M4 M5 M6 M7 O1 kL kA KB hg3 hg4 hgA hgp
  go_loopw [11, 33] (fun v11 v33 wr => ∃ (k : Nat) (E : List Ev) (vl : Value), k ≤ L.length ∧ v33 = .int .i64 k ∧ E.length ≤ k ∧ GoodE E ∧ (Below gw w wr ∧ gw ≤ wr.heap.size) ∧ LOG wr gw gp vl E ∧ blk wr gA = some (.cells (vv (vecOf E)) 35) ∧ OwnVV wr (gA + 1) v11 (setOf E)) (fun _ v33 _ => L.length - (intOf v33).toNat)
  case atStart => exact ⟨0, [], _, by omega, rfl, by simp, N4.out, N0.out, N1.out, N2.out, N3.out⟩
  case round =>
    obtain ⟨k, E, vl, hk, rfl, hEk, hG, q0, q1, q2, q3⟩ := hrel
    obtain ⟨aS, cS, rfl⟩ := q3.form
    have HG := Lib.hid hG
    have Q0 := Lib.hid q0
    have Q1 := Lib.hid q1
    have Q2 := Lib.hid q2
    have Q3 := Lib.hid q3
    clear hG q0 q1 q2 q3
    by_cases hlt : k < L.length
    · obtain ⟨b, o, rfl, hb1, hr0⟩ := HW.out.row hlt
      have hr := rowN_keep (Q0.out.1.mono (Nat.le_of_eq hgw)) hr0
      clear hr0
      have hbg : b < gw := by omega
      generalize L[k] = x at *
      have qA := Q2.out
      go_wp2_with fail
      refine wp_region_held_drew (S := fun w' => (Below gw w w' ∧ gw ≤ w'.heap.size) ∧ LOG w' gw gp vl E ∧ blk w' gA = some (.cells (vv (vecOf E)) 35) ∧ OwnVV w' (gA + 1) (.slice aS (setOf E).length cS) (setOf E) ∧ rowN 26 w' b (o + k * 26) = some (evA x)) (by kernel_rfl) ⟨⟨Q0.out.1.drew, Q0.out.2⟩, ⟨Q1.out.head, Q1.out.own, Q1.out.base_le⟩, qA, Q3.out, hr⟩ (fun hHeld => ?_)
      refine wpAnyH_take (i := 0) (v := ?_) rfl (by kernel_rfl) (by kernel_rfl) (by kernel_rfl) (fun _ _ _ h => h) (Or.inl ⟨by rfl, ?_⟩) hHeld ?_
      rotate_left
      · intro w hSw; (try dsimp only at hSw); (try simp only [List.getElem_toArray, List.getElem_cons_succ, List.getElem_cons_zero]); (go_simp; try with_reducible rfl)
      try simp only [List.getElem_toArray, List.getElem_cons_succ, List.getElem_cons_zero, Act.put, List.setIfInBounds_toArray, List.set_cons_zero, List.set_cons_succ]
      refine wpAnyH_take (i := 1) (v := ?_) rfl (by kernel_rfl) (by kernel_rfl) (by kernel_rfl) (fun _ _ _ h => h) (Or.inl ⟨by rfl, ?_⟩) hHeld ?_
      rotate_left
      · intro w hSw; (try dsimp only at hSw); (try simp only [List.getElem_toArray, List.getElem_cons_succ, List.getElem_cons_zero]); (go_simp; try with_reducible rfl)
      try simp only [List.getElem_toArray, List.getElem_cons_succ, List.getElem_cons_zero, Act.put, List.setIfInBounds_toArray, List.set_cons_zero, List.set_cons_succ]
      refine wpAnyH_take (i := 2) (v := ?_) rfl (by kernel_rfl) (by kernel_rfl) (by kernel_rfl) (fun _ _ _ h => h) (Or.inl ⟨by rfl, ?_⟩) hHeld ?_
      rotate_left
      · intro w hSw; (try dsimp only at hSw); (try simp only [List.getElem_toArray, List.getElem_cons_succ, List.getElem_cons_zero]); (go_simp; try with_reducible rfl)
      try simp only [List.getElem_toArray, List.getElem_cons_succ, List.getElem_cons_zero, Act.put, List.setIfInBounds_toArray, List.set_cons_zero, List.set_cons_succ]
      refine wpAnyH_take (i := 3) (v := ?_) rfl (by kernel_rfl) (by kernel_rfl) (by kernel_rfl) (fun _ _ _ h => h) (Or.inl ⟨by rfl, ?_⟩) hHeld ?_
      rotate_left
      · intro w hSw; (try dsimp only at hSw); (try simp only [List.getElem_toArray, List.getElem_cons_succ, List.getElem_cons_zero]); (go_simp; try with_reducible rfl)
      try simp only [List.getElem_toArray, List.getElem_cons_succ, List.getElem_cons_zero, Act.put, List.setIfInBounds_toArray, List.set_cons_zero, List.set_cons_succ]
      refine wpAnyH_ready (rs := [4]) (by kernel_rfl) (by simp) ?_
      refine AllReadyH.cons rfl (fun K hK => ?_) AllReadyH.nil
      go_simp
      refine Calls.mono (right05_any x _) ?_
      rintro e w6 ⟨⟨br, rfl, hbr⟩, hb'⟩
      refine hK.out _ _ ⟨⟨gbel hb' hHeld.1.1 hHeld.1.2, Nat.le_trans hHeld.1.2 hb'.size⟩, hHeld.2.1.keep hb', gblk hb' hHeld.2.2.1, hHeld.2.2.2.1.below hb', rowN_keep hb' hHeld.2.2.2.2⟩ (fun hNew => ?_)
      clear hK K hHeld hb' Q0 Q1 Q2 Q3 hr qA
      have hHeld := hNew
      clear hNew
      try simp only [List.getElem_toArray, List.getElem_cons_succ, List.getElem_cons_zero, Act.put, List.setIfInBounds_toArray, List.set_cons_zero, List.set_cons_succ]
      cases br
      · clear hbr
        refine wpAnyH_take (i := 5) (v := ?_) rfl (by kernel_rfl) (by kernel_rfl) (by kernel_rfl) (fun _ _ _ h => h) (Or.inl ⟨by rfl, ?_⟩) hHeld ?_
        rotate_left
        · intro w hSw; (try dsimp only at hSw); (try simp only [List.getElem_toArray, List.getElem_cons_succ, List.getElem_cons_zero]); (go_simp; try with_reducible rfl)
        try simp only [List.getElem_toArray, List.getElem_cons_succ, List.getElem_cons_zero, Act.put, List.setIfInBounds_toArray, List.set_cons_zero, List.set_cons_succ]
        refine wpAnyH_take (i := 6) rfl (by kernel_rfl) (by kernel_rfl) (by kernel_rfl) (fun _ _ _ h => h) (Or.inr ⟨by rfl, rfl⟩) hHeld ?_
        try simp only [List.getElem_toArray, List.getElem_cons_succ, List.getElem_cons_zero, Act.put, List.setIfInBounds_toArray, List.set_cons_zero, List.set_cons_succ]
        refine wpAnyH_take (i := 7) rfl (by kernel_rfl) (by kernel_rfl) (by kernel_rfl) (fun _ _ _ h => h) (Or.inr ⟨by rfl, rfl⟩) hHeld ?_
        try simp only [List.getElem_toArray, List.getElem_cons_succ, List.getElem_cons_zero, Act.put, List.setIfInBounds_toArray, List.set_cons_zero, List.set_cons_succ]
        refine wpAnyH_take (i := 8) rfl (by kernel_rfl) (by kernel_rfl) (by kernel_rfl) (fun _ _ _ h => h) (Or.inr ⟨by rfl, rfl⟩) hHeld ?_
        try simp only [List.getElem_toArray, List.getElem_cons_succ, List.getElem_cons_zero, Act.put, List.setIfInBounds_toArray, List.set_cons_zero, List.set_cons_succ]
        refine wpAnyH_take (i := 9) rfl (by kernel_rfl) (by kernel_rfl) (by kernel_rfl) (fun _ _ _ h => h) (Or.inr ⟨by rfl, rfl⟩) hHeld ?_
        try simp only [List.getElem_toArray, List.getElem_cons_succ, List.getElem_cons_zero, Act.put, List.setIfInBounds_toArray, List.set_cons_zero, List.set_cons_succ]
        refine wpAnyH_take (i := 10) rfl (by kernel_rfl) (by kernel_rfl) (by kernel_rfl) (fun _ _ _ h => h) (Or.inr ⟨by rfl, rfl⟩) hHeld ?_
        try simp only [List.getElem_toArray, List.getElem_cons_succ, List.getElem_cons_zero, Act.put, List.setIfInBounds_toArray, List.set_cons_zero, List.set_cons_succ]
        refine wpAnyH_take (i := 11) rfl (by kernel_rfl) (by kernel_rfl) (by kernel_rfl) (fun _ _ _ h => h) (Or.inr ⟨by rfl, rfl⟩) hHeld ?_
        try simp only [List.getElem_toArray, List.getElem_cons_succ, List.getElem_cons_zero, Act.put, List.setIfInBounds_toArray, List.set_cons_zero, List.set_cons_succ]
        refine wpAnyH_take (i := 12) (v := ?_) rfl (by kernel_rfl) (by kernel_rfl) (by kernel_rfl) (fun _ _ _ h => h) (Or.inl ⟨by rfl, ?_⟩) hHeld ?_
        rotate_left
        · intro w hSw; (try dsimp only at hSw); (try simp only [List.getElem_toArray, List.getElem_cons_succ, List.getElem_cons_zero]); (go_simp; try with_reducible rfl)
        try simp only [List.getElem_toArray, List.getElem_cons_succ, List.getElem_cons_zero, Act.put, List.setIfInBounds_toArray, List.set_cons_zero, List.set_cons_succ]
        refine wpAnyH_done (by kernel_rfl) ?_ _
        have Q := Lib.hid hHeld
        clear hHeld
        go_wp2
        go_roundw
        case rel => exact ⟨k + 1, E, vl, by omega, by go_num, by omega, HG.out, Q.out.1, Q.out.2.1, Q.out.2.2.1, Q.out.2.2.2.1⟩
        case measure => simp [intOf]; omega
      have hdot := Lib.hid (hbr rfl)
      clear hbr
      obtain ⟨b0, b1, b2, b3⟩ := dotB_true hdot.out
      have hvb := vec_bd HG.out x.r.toNat E.length (Nat.le_refl _)
      rw [List.take_length] at hvb
      refine wpAnyH_take (i := 5) (v := ?_) rfl (by kernel_rfl) (by kernel_rfl) (by kernel_rfl) (fun _ _ _ h => h) (Or.inl ⟨by rfl, ?_⟩) hHeld ?_
      rotate_left
      · intro w hSw; (try dsimp only at hSw); (try simp only [List.getElem_toArray, List.getElem_cons_succ, List.getElem_cons_zero]); (go_simp; try with_reducible rfl)
      try simp only [List.getElem_toArray, List.getElem_cons_succ, List.getElem_cons_zero, Act.put, List.setIfInBounds_toArray, List.set_cons_zero, List.set_cons_succ]
      refine wpAnyH_take (i := 6) (v := ?_) rfl (by kernel_rfl) (by kernel_rfl) (by kernel_rfl) (fun _ _ _ h => h) (Or.inl ⟨by rfl, ?_⟩) hHeld ?_
      rotate_left
      · intro w hSw; (try dsimp only at hSw); (try simp only [List.getElem_toArray, List.getElem_cons_succ, List.getElem_cons_zero]); (go_simp; try with_reducible rfl)
      try simp only [List.getElem_toArray, List.getElem_cons_succ, List.getElem_cons_zero, Act.put, List.setIfInBounds_toArray, List.set_cons_zero, List.set_cons_succ]
      refine wpAnyH_take (i := 7) (v := ?_) rfl (by kernel_rfl) (by kernel_rfl) (by kernel_rfl) (fun _ _ _ h => h) (Or.inl ⟨by rfl, ?_⟩) hHeld ?_
      rotate_left
      · intro w hSw; (try dsimp only at hSw); (try simp only [List.getElem_toArray, List.getElem_cons_succ, List.getElem_cons_zero]); (go_simp; try with_reducible rfl)
      try simp only [List.getElem_toArray, List.getElem_cons_succ, List.getElem_cons_zero, Act.put, List.setIfInBounds_toArray, List.set_cons_zero, List.set_cons_succ]
      refine wpAnyH_take (i := 8) (v := ?_) rfl (by kernel_rfl) (by kernel_rfl) (by kernel_rfl) (fun _ _ _ h => h) (Or.inl ⟨by rfl, ?_⟩) hHeld ?_
      rotate_left
      · intro w hSw; (try dsimp only at hSw); (try simp only [List.getElem_toArray, List.getElem_cons_succ, List.getElem_cons_zero]); (go_simp; try with_reducible rfl)
      try simp only [List.getElem_toArray, List.getElem_cons_succ, List.getElem_cons_zero, Act.put, List.setIfInBounds_toArray, List.set_cons_zero, List.set_cons_succ]
      refine wpAnyH_take (i := 9) (v := ?_) rfl (by kernel_rfl) (by kernel_rfl) (by kernel_rfl) (fun _ _ _ h => h) (Or.inl ⟨by rfl, ?_⟩) hHeld ?_
      rotate_left
      · intro w hSw; (try dsimp only at hSw); (try simp only [List.getElem_toArray, List.getElem_cons_succ, List.getElem_cons_zero]); (go_simp; try with_reducible rfl)
      try simp only [List.getElem_toArray, List.getElem_cons_succ, List.getElem_cons_zero, Act.put, List.setIfInBounds_toArray, List.set_cons_zero, List.set_cons_succ]
      refine wpAnyH_take (i := 10) (v := ?_) rfl (by kernel_rfl) (by kernel_rfl) (by kernel_rfl) (fun _ _ _ h => h) (Or.inl ⟨by rfl, ?_⟩) hHeld ?_
      rotate_left
      · intro w hSw; (try dsimp only at hSw); (try simp only [List.getElem_toArray, List.getElem_cons_succ, List.getElem_cons_zero]); (go_simp; try with_reducible rfl)
      try simp only [List.getElem_toArray, List.getElem_cons_succ, List.getElem_cons_zero, Act.put, List.setIfInBounds_toArray, List.set_cons_zero, List.set_cons_succ]
      refine wpAnyH_ready (rs := [11]) (by kernel_rfl) (by simp) ?_
      refine AllReadyH.cons rfl (fun K hK => ?_) AllReadyH.nil
      go_simp
      refine Calls.mono (may_any x (vecOf E) _ ⟨b0, b1⟩ hvb) ?_
      rintro e w7 ⟨rfl, hb'⟩
      refine hK.out _ _ ⟨⟨gbel hb' hHeld.1.1 hHeld.1.2, Nat.le_trans hHeld.1.2 hb'.size⟩, hHeld.2.1.keep hb', gblk hb' hHeld.2.2.1, hHeld.2.2.2.1.below hb', rowN_keep hb' hHeld.2.2.2.2⟩ (fun hNew => ?_)
      clear hK K hHeld hb'
      have hHeld := hNew
      clear hNew
      try simp only [List.getElem_toArray, List.getElem_cons_succ, List.getElem_cons_zero, Act.put, List.setIfInBounds_toArray, List.set_cons_zero, List.set_cons_succ]
      refine wpAnyH_take (i := 12) (v := ?_) rfl (by kernel_rfl) (by kernel_rfl) (by kernel_rfl) (fun _ _ _ h => h) (Or.inl ⟨by rfl, ?_⟩) hHeld ?_
      rotate_left
      · intro w hSw; (try dsimp only at hSw); (try simp only [List.getElem_toArray, List.getElem_cons_succ, List.getElem_cons_zero]); (go_simp; try with_reducible rfl)
      try simp only [List.getElem_toArray, List.getElem_cons_succ, List.getElem_cons_zero, Act.put, List.setIfInBounds_toArray, List.set_cons_zero, List.set_cons_succ]
      refine wpAnyH_done (by kernel_rfl) ?_ _
      have Q := Lib.hid hHeld
      clear hHeld
      cases hm : mayB x (vecOf E)
      · go_wp2
        go_roundw
        case rel => exact ⟨k + 1, E, vl, by omega, by go_num, by omega, HG.out, Q.out.1, Q.out.2.1, Q.out.2.2.1, Q.out.2.2.2.1⟩
        case measure => simp [intOf]; omega
      have HG2 := Lib.hid (HG.out.snoc hdot.out hm)
      have HV : Hid (vecOf (E ++ [x]) = up (vecOf E) x.r.toNat x.n) := Lib.hid (vecOf_snoc E x)
      have hr := Q.out.2.2.2.2
      go_wp2_with fail
      refine Calls.mono (padd_any gw gp vl E x _ Q.out.2.1 (by omega)) ?_
      rintro e w8 ⟨rfl, hF, vl', ka, hva⟩
      have hge := LogX.ge Q.out.2.1
      have R0 : Hid (Below gw w w8 ∧ gw ≤ w8.heap.size) := Lib.hid ⟨hF.below hge Q.out.1.2 Q.out.1.1, Nat.le_trans Q.out.1.2 hF.size⟩
      have R1 := Lib.hid ka
      have R2 := hF.blk (vv_logx Q.out.2.1 Q.out.2.2.1) Q.out.2.2.1
      have R3 := Lib.hid (Q.out.2.2.2.1.fr hF (fun j e => by obtain ⟨cs, hcs⟩ := vv_own_blk Q.out.2.2.2.1 e; exact vv_logx Q.out.2.1 hcs))
      have R4 := hF.rowN (hge b hbg) hr
      clear hF ka hge Q hr hva
      obtain ⟨q, hq⟩ := Int.eq_ofNat_of_zero_le b0
      have hq16 : q < 16 := by omega
      have hqi : (q : Int) < 16 := by omega
      obtain ⟨rs, rc⟩ := rowN_cells R4
      have c0 := rc 0 (by omega)
      have c1 := rc 1 (by omega)
      rw [Nat.add_zero, evA_get0, hq] at c0
      rw [evA_get1] at c1
      clear rc rs
      have hVB : VBox w8 gA (vecOf E) := R2
      have hcA := hVB.cell hq16
      have hfA := hVB.frozen q
      have HVB2 := Lib.hid (hVB.set hq16 x.n)
      have hAX := vv_logx R1.out R2
      clear R2 hVB
      have hFs : Fr (fun k => k = gA) w8 ((w8.setCell ⟨gA, q, none⟩ (.int .i64 x.n)).drew) := (Fr.setCell (X := fun k => k = gA) w8 gA q _ rfl).drew
      have T0 : Hid (Below gw w ((w8.setCell ⟨gA, q, none⟩ (.int .i64 x.n)).drew) ∧ gw ≤ ((w8.setCell ⟨gA, q, none⟩ (.int .i64 x.n)).drew).heap.size) := Lib.hid ⟨hFs.below (fun k hk e => by omega) R0.out.2 R0.out.1, Nat.le_trans R0.out.2 hFs.size⟩
      have T1 := Lib.hid (R1.out.fr hFs (fun k hk e => hAX (e ▸ hk)))
      have T2 : Hid (blk ((w8.setCell ⟨gA, q, none⟩ (.int .i64 x.n)).drew) gA = some (.cells (vv (vecOf (E ++ [x]))) 35)) := Lib.hid (by rw [HV.out, hq]; exact HVB2.out)
      have T3 := Lib.hid (R3.out.fr hFs (fun k e hk => by have := (R3.out.lt k e).1; omega))
      clear hFs hAX R0 R1 R3 HVB2
      go_wp2_with fail
      go_region
      generalize (w8.setCell ⟨gA, q, none⟩ (.int .i64 x.n)).drew = wd at *
      have hB := (Below.refl wd.heap.size wd).alloc (Nat.le_refl _) (Obj.cells (vv (vecOf (E ++ [x]))) 35)
      have U0 : Hid (Below gw w (wd.alloc (Obj.cells (vv (vecOf (E ++ [x]))) 35)) ∧ gw ≤ (wd.alloc (Obj.cells (vv (vecOf (E ++ [x]))) 35)).heap.size) := Lib.hid ⟨gbel hB T0.out.1 T0.out.2, Nat.le_trans T0.out.2 hB.size⟩
      have U1 := Lib.hid (T1.out.keep hB)
      have U2 := Lib.hid (gblk hB T2.out)
      have U3 := Lib.hid (T3.out.below hB)
      have U4 := Lib.hid (rowN_blk (n := 16) (gblk_new wd (Obj.cells (vv (vecOf (E ++ [x]))) 35)) rfl)
      have U5 : Hid ((setOf E).length ≤ 100000) := Lib.hid (by rw [setOf_length]; omega)
      have U6 : Hid (gA + 1 ≤ (wd.alloc (Obj.cells (vv (vecOf (E ++ [x]))) 35)).heap.size) := Lib.hid (by have := blk_lt T2.out; simp; omega)
      have qB := T2.out
      clear hB T0 T1 T2 T3 c0 c1 R4 hcA hfA hvb
      go_wp2_with (first
        | (at_builtin; refine wpList_append_vv rfl _ _ rfl (gA + 1) _ (setOf E) (vecOf (E ++ [x])) wd.heap.size 1 rfl rfl U3.out U4.out U5.out U6.out ?_; intro v1 w9 O1 G1; obtain ⟨a1, c1, rfl⟩ := O1.out.form)
        | fail)
      have hFr := Fr.of_grown (X := fun j => some j = (Value.slice aS (setOf E).length cS).ownBlock) G1.out (fun k e => e)
      have X0 : Hid (Below gw w w9 ∧ gw ≤ w9.heap.size) := Lib.hid ⟨hFr.below (fun k hk e => by have := (U3.out.lt k e.symm).1; omega) U0.out.2 U0.out.1, Nat.le_trans U0.out.2 hFr.size⟩
      have X1 := Lib.hid (U1.out.fr hFr (fun k hk e => by obtain ⟨cs', h⟩ := vv_own_blk U3.out e.symm; exact vv_logx U1.out h hk))
      have X2 := Lib.hid (hFr.blk (fun e => by have := (U3.out.lt gA e.symm).1; omega) U2.out)
      have X3 : Hid (OwnVV w9 (gA + 1) (.slice a1 ((setOf E).length + 1) c1) (setOf (E ++ [x]))) := Lib.hid (by rw [setOf_snoc]; simpa using O1.out)
      exact ⟨⟨k + 1, E ++ [x], vl', by omega, by go_num, by simp; omega, HG2.out, X0.out, X1.out, X2.out, X3.out⟩, by simp [intOf]; omega⟩
    · have hE : E.length ≤ 200 := by omega
      have hSL := setOf_length E
      rw [hSL] at Q3 ⊢
      clear hSL hEk
      generalize hm : E.length + 1 = m at Q3 ⊢
      have hm1 : m ≤ 201 := by omega
      obtain ⟨n, kk, hn, hkk, hnm, hkn⟩ := pick m td sn (by omega)
      have hkS : kk < (setOf E).length := by rw [setOf_length, hm]; exact Nat.lt_of_le_of_lt hkn hnm
      obtain ⟨gS, rfl, hgS1, hgS2, hrS⟩ := Q3.out.row hkS
      rw [setOf_get] at hrS
      have hkm2 : kk < m := Nat.lt_of_le_of_lt hkn hnm
      have hkm : (kk : Int) < m := Int.ofNat_lt.2 hkm2
      obtain ⟨c, hc8, hcl⟩ := pick8 bt
      have hnS : n < (setOf E).length := by rw [setOf_length, hm]; exact hnm
      have hnE : n ≤ E.length := by omega
      have hE5 : Hid (E.length ≤ 500000000000) := Lib.hid (Nat.le_trans hE (by decide))
      clear hkS
      go_wp2_with fail
      have hB := (Below.refl wr.heap.size wr).alloc (Nat.le_refl _) (Obj.cells (vv (vecOf (E.take kk))) 35)
      have Y0 : Hid (Below gw w (wr.alloc (Obj.cells (vv (vecOf (E.take kk))) 35)) ∧ gw ≤ (wr.alloc (Obj.cells (vv (vecOf (E.take kk))) 35)).heap.size) := Lib.hid ⟨gbel hB Q0.out.1 Q0.out.2, Nat.le_trans Q0.out.2 hB.size⟩
      have Y1 := Lib.hid (Q1.out.keep hB)
      have Y2 := Lib.hid (gblk_new wr (Obj.cells (vv (vecOf (E.take kk))) 35))
      have Y3 := Lib.hid (Q3.out.below hB)
      have hgV : gw ≤ wr.heap.size := Q0.out.2
      clear hB Q0 Q1 Q2 Q3 hrS hlt hk
      generalize wr.alloc (Obj.cells (vv (vecOf (E.take kk))) 35) = wv at *
      generalize wr.heap.size = gV at *
      go_loopw [91] (fun v91 wq => ∃ (t j : Nat), v91 = .int .i64 t ∧ t ≤ m ∧ j ≤ n ∧ (n ≤ j ∨ kk + t ≤ j) ∧ (Below gw w wq ∧ gw ≤ wq.heap.size) ∧ LOG wq gw gp vl E ∧ OwnVV wq (gA + 1) (.slice (some ⟨gS, 0, none⟩) m cS) (setOf E) ∧ blk wq gV = some (.cells (vv (vecOf (E.take j))) 35)) (fun v91 _ => m - (intOf v91).toNat)
      case atStart => exact ⟨0, kk, rfl, by omega, hkn, by omega, Y0.out, Y1.out, Y3.out, Y2.out⟩
      case round =>
        obtain ⟨t, j, rfl, htm, hjn, hjt, q0, q1, q3, q2⟩ := hrel
        have Q0 := Lib.hid q0
        have Q1 := Lib.hid q1
        have Q2 := Lib.hid q2
        have Q3 := Lib.hid q3
        clear q0 q1 q2 q3 Y0 Y1 Y2 Y3
        obtain ⟨gS', hgS', _, hgS3, hrS⟩ := Q3.out.row hnS
        have hgS4 : gS' = gS := by simpa using hgS'.symm
        subst hgS4
        clear hgS'
        rw [setOf_get] at hrS
        have qV := Q2.out
        by_cases hlt2 : t < m
        · have HT := Lib.hid (told HG.out hjn hnE (1 + (c : Int)))
          go_wp2_with fail
          refine wp_region_held_drew (S := fun w' => (Below gw w w' ∧ gw ≤ w'.heap.size) ∧ LOG w' gw gp vl E ∧ OwnVV w' (gA + 1) (.slice (some ⟨gS', 0, none⟩) m cS) (setOf E) ∧ blk w' gV = some (.cells (vv (vecOf (E.take j))) 35) ∧ rowN 16 w' gS' (n * 16) = some (vv (vecOf (E.take n)))) (by kernel_rfl) ⟨⟨Q0.out.1.drew, Q0.out.2⟩, ⟨Q1.out.head, Q1.out.own, Q1.out.base_le⟩, Q3.out, qV, hrS⟩ (fun hHeld => ?_)
          refine wpAnyH_take (i := 0) (v := ?_) rfl (by kernel_rfl) (by kernel_rfl) (by kernel_rfl) (fun _ _ _ h => h) (Or.inl ⟨by rfl, ?_⟩) hHeld ?_
          rotate_left
          · intro w hSw; (try dsimp only at hSw); (try simp only [List.getElem_toArray, List.getElem_cons_succ, List.getElem_cons_zero]); (go_simp; try with_reducible rfl)
          try simp only [List.getElem_toArray, List.getElem_cons_succ, List.getElem_cons_zero, Act.put, List.setIfInBounds_toArray, List.set_cons_zero, List.set_cons_succ]
          refine wpAnyH_take (i := 1) (v := ?_) rfl (by kernel_rfl) (by kernel_rfl) (by kernel_rfl) (fun _ _ _ h => h) (Or.inl ⟨by rfl, ?_⟩) hHeld ?_
          rotate_left
          · intro w hSw; (try dsimp only at hSw); (try simp only [List.getElem_toArray, List.getElem_cons_succ, List.getElem_cons_zero]); (go_simp; try with_reducible rfl)
          try simp only [List.getElem_toArray, List.getElem_cons_succ, List.getElem_cons_zero, Act.put, List.setIfInBounds_toArray, List.set_cons_zero, List.set_cons_succ]
          refine wpAnyH_take (i := 2) (v := ?_) rfl (by kernel_rfl) (by kernel_rfl) (by kernel_rfl) (fun _ _ _ h => h) (Or.inl ⟨by rfl, ?_⟩) hHeld ?_
          rotate_left
          · intro w hSw; (try dsimp only at hSw); (try simp only [List.getElem_toArray, List.getElem_cons_succ, List.getElem_cons_zero]); (go_simp; try with_reducible rfl)
          try simp only [List.getElem_toArray, List.getElem_cons_succ, List.getElem_cons_zero, Act.put, List.setIfInBounds_toArray, List.set_cons_zero, List.set_cons_succ]
          refine wpAnyH_take (i := 3) (v := ?_) rfl (by kernel_rfl) (by kernel_rfl) (by kernel_rfl) (fun _ _ _ h => h) (Or.inl ⟨by rfl, ?_⟩) hHeld ?_
          rotate_left
          · intro w hSw; (try dsimp only at hSw); (try simp only [List.getElem_toArray, List.getElem_cons_succ, List.getElem_cons_zero]); (go_simp; try with_reducible rfl)
          try simp only [List.getElem_toArray, List.getElem_cons_succ, List.getElem_cons_zero, Act.put, List.setIfInBounds_toArray, List.set_cons_zero, List.set_cons_succ]
          refine wpAnyH_take (i := 4) (v := ?_) rfl (by kernel_rfl) (by kernel_rfl) (by kernel_rfl) (fun _ _ _ h => h) (Or.inl ⟨by rfl, ?_⟩) hHeld ?_
          rotate_left
          · intro w hSw; (try dsimp only at hSw); (try simp only [List.getElem_toArray, List.getElem_cons_succ, List.getElem_cons_zero]); (go_simp; try with_reducible rfl)
          try simp only [List.getElem_toArray, List.getElem_cons_succ, List.getElem_cons_zero, Act.put, List.setIfInBounds_toArray, List.set_cons_zero, List.set_cons_succ]
          refine wpAnyH_take (i := 5) (v := ?_) rfl (by kernel_rfl) (by kernel_rfl) (by kernel_rfl) (fun _ _ _ h => h) (Or.inl ⟨by rfl, ?_⟩) hHeld ?_
          rotate_left
          · intro w hSw; (try dsimp only at hSw); (try simp only [List.getElem_toArray, List.getElem_cons_succ, List.getElem_cons_zero]); (go_simp; try with_reducible rfl)
          try simp only [List.getElem_toArray, List.getElem_cons_succ, List.getElem_cons_zero, Act.put, List.setIfInBounds_toArray, List.set_cons_zero, List.set_cons_succ]
          refine wpAnyH_take (i := 6) (v := ?_) rfl (by kernel_rfl) (by kernel_rfl) (by kernel_rfl) (fun _ _ _ h => h) (Or.inl ⟨by rfl, ?_⟩) hHeld ?_
          rotate_left
          · intro w hSw; (try dsimp only at hSw); (try simp only [List.getElem_toArray, List.getElem_cons_succ, List.getElem_cons_zero]); (go_simp; try with_reducible rfl)
          try simp only [List.getElem_toArray, List.getElem_cons_succ, List.getElem_cons_zero, Act.put, List.setIfInBounds_toArray, List.set_cons_zero, List.set_cons_succ]
          refine wpAnyH_take (i := 7) (v := ?_) rfl (by kernel_rfl) (by kernel_rfl) (by kernel_rfl) (fun _ _ _ h => h) (Or.inl ⟨by rfl, ?_⟩) hHeld ?_
          rotate_left
          · intro w hSw; (try dsimp only at hSw); (try simp only [List.getElem_toArray, List.getElem_cons_succ, List.getElem_cons_zero]); (go_simp; try with_reducible rfl)
          try simp only [List.getElem_toArray, List.getElem_cons_succ, List.getElem_cons_zero, Act.put, List.setIfInBounds_toArray, List.set_cons_zero, List.set_cons_succ]
          refine wpAnyH_take (i := 8) (v := ?_) rfl (by kernel_rfl) (by kernel_rfl) (by kernel_rfl) (fun _ _ _ h => h) (Or.inl ⟨by rfl, ?_⟩) hHeld ?_
          rotate_left
          · intro w hSw; (try dsimp only at hSw); (try simp only [List.getElem_toArray, List.getElem_cons_succ, List.getElem_cons_zero]); (go_simp; try with_reducible rfl)
          try simp only [List.getElem_toArray, List.getElem_cons_succ, List.getElem_cons_zero, Act.put, List.setIfInBounds_toArray, List.set_cons_zero, List.set_cons_succ]
          refine wpAnyH_take (i := 9) (v := ?_) rfl (by kernel_rfl) (by kernel_rfl) (by kernel_rfl) (fun _ _ _ h => h) (Or.inl ⟨by rfl, ?_⟩) hHeld ?_
          rotate_left
          · intro w hSw; (try dsimp only at hSw); (try simp only [List.getElem_toArray, List.getElem_cons_succ, List.getElem_cons_zero]); (go_simp; try with_reducible rfl)
          try simp only [List.getElem_toArray, List.getElem_cons_succ, List.getElem_cons_zero, Act.put, List.setIfInBounds_toArray, List.set_cons_zero, List.set_cons_succ]
          refine wpAnyH_ready (rs := [10]) (by kernel_rfl) (by simp) ?_
          refine AllReadyH.cons rfl (fun K hK => ?_) AllReadyH.nil
          go_simp
          (rw [wrap8 hc8 hcl hbt.1]; refine Calls.mono (for_any gw gp vl E (vecOf (E.take j)) (vecOf (E.take n)) (1 + (c : Int)) _ hHeld.2.1 hE5.out) ?_; rintro e w' ⟨xo, rfl, hb', ho⟩; have hO : Hid (OwnEv w' (gV + 1) xo _) := Lib.hid (ho.mono (Nat.succ_le_of_lt (blk_lt hHeld.2.2.2.1))))
          refine hK.out _ _ ⟨⟨gbel hb' hHeld.1.1 hHeld.1.2, Nat.le_trans hHeld.1.2 hb'.size⟩, hHeld.2.1.keep hb', hHeld.2.2.1.below hb', gblk hb' hHeld.2.2.2.1, rowN_keep hb' hHeld.2.2.2.2⟩ (fun hNew => ?_)
          clear hK K hHeld hb'
          have hHeld := hNew
          clear hNew
          try simp only [List.getElem_toArray, List.getElem_cons_succ, List.getElem_cons_zero, Act.put, List.setIfInBounds_toArray, List.set_cons_zero, List.set_cons_succ]
          refine wpAnyH_take (i := 11) (v := ?_) rfl (by kernel_rfl) (by kernel_rfl) (by kernel_rfl) (fun _ _ _ h => h) (Or.inl ⟨by rfl, ?_⟩) hHeld ?_
          rotate_left
          · intro w hSw; (try dsimp only at hSw); (try simp only [List.getElem_toArray, List.getElem_cons_succ, List.getElem_cons_zero]); (go_simp; try with_reducible rfl)
          try simp only [List.getElem_toArray, List.getElem_cons_succ, List.getElem_cons_zero, Act.put, List.setIfInBounds_toArray, List.set_cons_zero, List.set_cons_succ]
          refine wpAnyH_done (by kernel_rfl) ?_ _
          have Q := Lib.hid hHeld
          clear hHeld ho Q0 Q1 Q2 Q3 qV hrS
          rw [HT.out] at hO
          generalize hOe : ((E.take n).drop j).take (1 + (c : Int)).toNat = O at *
          obtain ⟨o1, o2, o3, o4⟩ := told_facts hOe hjn hnE
          obtain ⟨xa, xc, rfl⟩ := hO.out.form
          have hx1 : ¬ 1 + (c : Int) < (O.length : Int) := by omega
          clear hOe HT
          go_wp2_with fail
          go_loopw [113] (fun v113 wz => ∃ i : Nat, v113 = .int .i64 i ∧ i ≤ O.length ∧ (Below gw w wz ∧ gw ≤ wz.heap.size) ∧ LOG wz gw gp vl E ∧ OwnVV wz (gA + 1) (.slice (some ⟨gS', 0, none⟩) m cS) (setOf E) ∧ OwnEv wz (gV + 1) (.slice xa O.length xc) O ∧ blk wz gV = some (.cells (vv (vecOf (E.take (j + i)))) 35)) (fun v113 _ => O.length - (intOf v113).toNat)
          case atStart => exact ⟨0, rfl, Nat.zero_le _, Q.out.1, Q.out.2.1, Q.out.2.2.1, hO.out, Q.out.2.2.2.1⟩
          case round =>
            obtain ⟨i, rfl, hiO, q0, q1, q3, q4, q2⟩ := hrel
            have Q0 := Lib.hid q0
            have Q1 := Lib.hid q1
            have Q2 := Lib.hid q2
            have Q3 := Lib.hid q3
            have Q4 := Lib.hid q4
            clear q0 q1 q2 q3 q4 Q hO
            by_cases hlt3 : i < O.length
            · obtain ⟨b, o, rfl, hb1, hr⟩ := (OwnEv.sl Q4.out).row hlt3
              obtain ⟨hji, hOi⟩ := o4 i hlt3
              rw [hOi] at hr
              obtain ⟨hdot, hmay⟩ := HG.out (j + i) hji
              have HV : Hid (vecOf (E.take (j + (i + 1))) = up (vecOf (E.take (j + i))) E[j + i].r.toNat E[j + i].n) := Lib.hid (vecOf_succ hji)
              generalize E[j + i] = x at *
              obtain ⟨b0, b1, b2, b3⟩ := dotB_true hdot
              have hvb := vec_bd HG.out x.r.toNat (j + i) (Nat.le_of_lt hji)
              have hmay2 := Lib.hid hmay
              clear hmay hdot hOi
              have qV := Q2.out
              go_wp2_with fail
              refine wp_region_held_drew (S := fun w' => (Below gw w w' ∧ gw ≤ w'.heap.size) ∧ LOG w' gw gp vl E ∧ OwnVV w' (gA + 1) (.slice (some ⟨gS', 0, none⟩) m cS) (setOf E) ∧ OwnEv w' (gV + 1) (.slice (some ⟨b, o, none⟩) O.length xc) O ∧ blk w' gV = some (.cells (vv (vecOf (E.take (j + i)))) 35) ∧ rowN 26 w' b (o + i * 26) = some (evA x)) (by kernel_rfl) ⟨⟨Q0.out.1.drew, Q0.out.2⟩, ⟨Q1.out.head, Q1.out.own, Q1.out.base_le⟩, Q3.out, Q4.out, qV, hr⟩ (fun hHeld => ?_)
              refine wpAnyH_take (i := 0) (v := ?_) rfl (by kernel_rfl) (by kernel_rfl) (by kernel_rfl) (fun _ _ _ h => h) (Or.inl ⟨by rfl, ?_⟩) hHeld ?_
              rotate_left
              · intro w hSw; (try dsimp only at hSw); (try simp only [List.getElem_toArray, List.getElem_cons_succ, List.getElem_cons_zero]); (go_simp; try with_reducible rfl)
              try simp only [List.getElem_toArray, List.getElem_cons_succ, List.getElem_cons_zero, Act.put, List.setIfInBounds_toArray, List.set_cons_zero, List.set_cons_succ]
              refine wpAnyH_take (i := 1) (v := ?_) rfl (by kernel_rfl) (by kernel_rfl) (by kernel_rfl) (fun _ _ _ h => h) (Or.inl ⟨by rfl, ?_⟩) hHeld ?_
              rotate_left
              · intro w hSw; (try dsimp only at hSw); (try simp only [List.getElem_toArray, List.getElem_cons_succ, List.getElem_cons_zero]); (go_simp; try with_reducible rfl)
              try simp only [List.getElem_toArray, List.getElem_cons_succ, List.getElem_cons_zero, Act.put, List.setIfInBounds_toArray, List.set_cons_zero, List.set_cons_succ]
              refine wpAnyH_take (i := 2) (v := ?_) rfl (by kernel_rfl) (by kernel_rfl) (by kernel_rfl) (fun _ _ _ h => h) (Or.inl ⟨by rfl, ?_⟩) hHeld ?_
              rotate_left
              · intro w hSw; (try dsimp only at hSw); (try simp only [List.getElem_toArray, List.getElem_cons_succ, List.getElem_cons_zero]); (go_simp; try with_reducible rfl)
              try simp only [List.getElem_toArray, List.getElem_cons_succ, List.getElem_cons_zero, Act.put, List.setIfInBounds_toArray, List.set_cons_zero, List.set_cons_succ]
              refine wpAnyH_take (i := 3) (v := ?_) rfl (by kernel_rfl) (by kernel_rfl) (by kernel_rfl) (fun _ _ _ h => h) (Or.inl ⟨by rfl, ?_⟩) hHeld ?_
              rotate_left
              · intro w hSw; (try dsimp only at hSw); (try simp only [List.getElem_toArray, List.getElem_cons_succ, List.getElem_cons_zero]); (go_simp; try with_reducible rfl)
              try simp only [List.getElem_toArray, List.getElem_cons_succ, List.getElem_cons_zero, Act.put, List.setIfInBounds_toArray, List.set_cons_zero, List.set_cons_succ]
              refine wpAnyH_take (i := 4) (v := ?_) rfl (by kernel_rfl) (by kernel_rfl) (by kernel_rfl) (fun _ _ _ h => h) (Or.inl ⟨by rfl, ?_⟩) hHeld ?_
              rotate_left
              · intro w hSw; (try dsimp only at hSw); (try simp only [List.getElem_toArray, List.getElem_cons_succ, List.getElem_cons_zero]); (go_simp; try with_reducible rfl)
              try simp only [List.getElem_toArray, List.getElem_cons_succ, List.getElem_cons_zero, Act.put, List.setIfInBounds_toArray, List.set_cons_zero, List.set_cons_succ]
              refine wpAnyH_ready (rs := [5]) (by kernel_rfl) (by simp) ?_
              refine AllReadyH.cons rfl (fun K hK => ?_) AllReadyH.nil
              go_simp
              (refine Calls.mono (may_any x (vecOf (E.take (j + i))) _ ⟨b0, b1⟩ hvb) ?_; rintro e w7 ⟨rfl, hb'⟩)
              refine hK.out _ _ ⟨⟨gbel hb' hHeld.1.1 hHeld.1.2, Nat.le_trans hHeld.1.2 hb'.size⟩, hHeld.2.1.keep hb', hHeld.2.2.1.below hb', hHeld.2.2.2.1.below hb', gblk hb' hHeld.2.2.2.2.1, rowN_keep hb' hHeld.2.2.2.2.2⟩ (fun hNew => ?_)
              clear hK K hHeld hb'
              have hHeld := hNew
              clear hNew
              try simp only [List.getElem_toArray, List.getElem_cons_succ, List.getElem_cons_zero, Act.put, List.setIfInBounds_toArray, List.set_cons_zero, List.set_cons_succ]
              refine wpAnyH_take (i := 6) (v := ?_) rfl (by kernel_rfl) (by kernel_rfl) (by kernel_rfl) (fun _ _ _ h => h) (Or.inl ⟨by rfl, ?_⟩) hHeld ?_
              rotate_left
              · intro w hSw; (try dsimp only at hSw); (try simp only [List.getElem_toArray, List.getElem_cons_succ, List.getElem_cons_zero]); (go_simp; try with_reducible rfl)
              try simp only [List.getElem_toArray, List.getElem_cons_succ, List.getElem_cons_zero, Act.put, List.setIfInBounds_toArray, List.set_cons_zero, List.set_cons_succ]
              refine wpAnyH_done (by kernel_rfl) ?_ _
              have Q := Lib.hid hHeld
              clear hHeld Q0 Q1 Q2 Q3 Q4 qV hr
              rw [hmay2.out]
              clear hmay2 hvb
              obtain ⟨q, hq⟩ := Int.eq_ofNat_of_zero_le b0
              have hq16 : q < 16 := by omega
              have hqi : (q : Int) < 16 := by omega
              obtain ⟨rs, rc⟩ := rowN_cells Q.out.2.2.2.2.2
              have c0 := rc 0 (by omega)
              have c1 := rc 1 (by omega)
              rw [Nat.add_zero, evA_get0, hq] at c0
              rw [evA_get1] at c1
              clear rc rs
              have hVB : VBox w7 gV (vecOf (E.take (j + i))) := Q.out.2.2.2.2.1
              have hcA := hVB.cell hq16
              have hfA := hVB.frozen q
              have HVB2 := Lib.hid (hVB.set hq16 x.n)
              have hAX := vv_logx Q.out.2.1 Q.out.2.2.2.2.1
              clear hVB
              have hFs : Fr (fun k => k = gV) w7 ((w7.setCell ⟨gV, q, none⟩ (.int .i64 x.n)).drew) := (Fr.setCell (X := fun k => k = gV) w7 gV q _ rfl).drew
              have T0 : Hid (Below gw w ((w7.setCell ⟨gV, q, none⟩ (.int .i64 x.n)).drew) ∧ gw ≤ ((w7.setCell ⟨gV, q, none⟩ (.int .i64 x.n)).drew).heap.size) := Lib.hid ⟨hFs.below (fun k hk e => by omega) Q.out.1.2 Q.out.1.1, Nat.le_trans Q.out.1.2 hFs.size⟩
              have T1 := Lib.hid (Q.out.2.1.fr hFs (fun k hk e => hAX (e ▸ hk)))
              have T2 : Hid (blk ((w7.setCell ⟨gV, q, none⟩ (.int .i64 x.n)).drew) gV = some (.cells (vv (vecOf (E.take (j + (i + 1))))) 35)) := Lib.hid (by rw [HV.out, hq]; exact HVB2.out)
              have T3 := Lib.hid (Q.out.2.2.1.fr hFs (fun k e hk => by simp [Value.ownBlock] at e; omega))
              have T4 := Lib.hid (hFs.own (fun k e hk => by have := (Q.out.2.2.2.1.lt k e).1; omega) Q.out.2.2.2.1)
              clear hFs hAX HVB2 Q HV
              go_wp2_with fail
              go_region
              generalize (w7.setCell ⟨gV, q, none⟩ (.int .i64 x.n)).drew = wd at *
              go_wp2
              exact ⟨⟨i + 1, by go_num, hlt3, T0.out, T1.out, T3.out, T4.out, T2.out⟩, by simp [intOf]; omega⟩
            · obtain rfl : i = O.length := by omega
              clear hlt3 hiO
              have hjt2 : n ≤ j + O.length ∨ kk + (t + 1) ≤ j + O.length := by omega
              go_wp2
              go_roundw
              case rel =>
                iterate 50 apply Exists.intro
                refine And.intro ?r ?f
                case f =>
                  rw [hn, hkk]
                case r => exact ⟨t + 1, j + O.length, by go_num, hlt2, o2, hjt2, Q0.out, Q1.out, Q3.out, Q2.out⟩
              case measure => simp [intOf]; omega
        · obtain rfl : t = m := by omega
          obtain rfl : j = n := by omega
          clear hlt2 htm hjt
          have hsame := same16_refl (vecOf (E.take j))
          go_wp2_with fail
          refine wp_region_held_drew (S := fun w' => (Below gw w w' ∧ gw ≤ w'.heap.size) ∧ blk w' gV = some (.cells (vv (vecOf (E.take j))) 35) ∧ rowN 16 w' gS' (j * 16) = some (vv (vecOf (E.take j)))) (by kernel_rfl) ⟨⟨Q0.out.1.drew, Q0.out.2⟩, qV, hrS⟩ (fun hHeld => ?_)
          refine wpAnyH_take (i := 0) (v := ?_) rfl (by kernel_rfl) (by kernel_rfl) (by kernel_rfl) (fun _ _ _ h => h) (Or.inl ⟨by rfl, ?_⟩) hHeld ?_
          rotate_left
          · intro w hSw; (try dsimp only at hSw); (try simp only [List.getElem_toArray, List.getElem_cons_succ, List.getElem_cons_zero]); (go_simp; try with_reducible rfl)
          try simp only [List.getElem_toArray, List.getElem_cons_succ, List.getElem_cons_zero, Act.put, List.setIfInBounds_toArray, List.set_cons_zero, List.set_cons_succ]
          refine wpAnyH_take (i := 1) (v := ?_) rfl (by kernel_rfl) (by kernel_rfl) (by kernel_rfl) (fun _ _ _ h => h) (Or.inl ⟨by rfl, ?_⟩) hHeld ?_
          rotate_left
          · intro w hSw; (try dsimp only at hSw); (try simp only [List.getElem_toArray, List.getElem_cons_succ, List.getElem_cons_zero]); (go_simp; try with_reducible rfl)
          try simp only [List.getElem_toArray, List.getElem_cons_succ, List.getElem_cons_zero, Act.put, List.setIfInBounds_toArray, List.set_cons_zero, List.set_cons_succ]
          refine wpAnyH_take (i := 2) (v := ?_) rfl (by kernel_rfl) (by kernel_rfl) (by kernel_rfl) (fun _ _ _ h => h) (Or.inl ⟨by rfl, ?_⟩) hHeld ?_
          rotate_left
          · intro w hSw; (try dsimp only at hSw); (try simp only [List.getElem_toArray, List.getElem_cons_succ, List.getElem_cons_zero]); (go_simp; try with_reducible rfl)
          try simp only [List.getElem_toArray, List.getElem_cons_succ, List.getElem_cons_zero, Act.put, List.setIfInBounds_toArray, List.set_cons_zero, List.set_cons_succ]
          refine wpAnyH_take (i := 3) (v := ?_) rfl (by kernel_rfl) (by kernel_rfl) (by kernel_rfl) (fun _ _ _ h => h) (Or.inl ⟨by rfl, ?_⟩) hHeld ?_
          rotate_left
          · intro w hSw; (try dsimp only at hSw); (try simp only [List.getElem_toArray, List.getElem_cons_succ, List.getElem_cons_zero]); (go_simp; try with_reducible rfl)
          try simp only [List.getElem_toArray, List.getElem_cons_succ, List.getElem_cons_zero, Act.put, List.setIfInBounds_toArray, List.set_cons_zero, List.set_cons_succ]
          refine wpAnyH_take (i := 4) (v := ?_) rfl (by kernel_rfl) (by kernel_rfl) (by kernel_rfl) (fun _ _ _ h => h) (Or.inl ⟨by rfl, ?_⟩) hHeld ?_
          rotate_left
          · intro w hSw; (try dsimp only at hSw); (try simp only [List.getElem_toArray, List.getElem_cons_succ, List.getElem_cons_zero]); (go_simp; try with_reducible rfl)
          try simp only [List.getElem_toArray, List.getElem_cons_succ, List.getElem_cons_zero, Act.put, List.setIfInBounds_toArray, List.set_cons_zero, List.set_cons_succ]
          refine wpAnyH_take (i := 5) (v := ?_) rfl (by kernel_rfl) (by kernel_rfl) (by kernel_rfl) (fun _ _ _ h => h) (Or.inl ⟨by rfl, ?_⟩) hHeld ?_
          rotate_left
          · intro w hSw; (try dsimp only at hSw); (try simp only [List.getElem_toArray, List.getElem_cons_succ, List.getElem_cons_zero]); (go_simp; try with_reducible rfl)
          try simp only [List.getElem_toArray, List.getElem_cons_succ, List.getElem_cons_zero, Act.put, List.setIfInBounds_toArray, List.set_cons_zero, List.set_cons_succ]
          refine wpAnyH_take (i := 6) (v := ?_) rfl (by kernel_rfl) (by kernel_rfl) (by kernel_rfl) (fun _ _ _ h => h) (Or.inl ⟨by rfl, ?_⟩) hHeld ?_
          rotate_left
          · intro w hSw; (try dsimp only at hSw); (try simp only [List.getElem_toArray, List.getElem_cons_succ, List.getElem_cons_zero]); (go_simp; try with_reducible rfl)
          try simp only [List.getElem_toArray, List.getElem_cons_succ, List.getElem_cons_zero, Act.put, List.setIfInBounds_toArray, List.set_cons_zero, List.set_cons_succ]
          refine wpAnyH_done (by kernel_rfl) ?_ _
          have Q := Lib.hid hHeld.1.1
          clear hHeld
          go_wp2
          go_ret
          exact ⟨rfl, Q.out.mono (Nat.le_of_eq hgw)⟩

theorem walk (a : Option Addr) (len cap : Nat) (sn td bt : Int) (w : World) (hl : len ≤ cap) (hm : cap ≤ maxLen) (hr : RowsIn [.int .i64, .int .i64, .int .i64, .int .i64, .int .i64, .int .i64, .int .i64, .int .i64, .int .i64, .int .i64, .int .i64, .int .i64, .int .i64, .int .i64, .int .i64, .int .i64, .int .i64, .int .i64, .int .i64, .int .i64, .string, .string, .string, .int .i64, .int .i64, .int .i64] w a len)
    (w1 : (Lit.int .u64 sn).wf = true) (w2 : (Lit.int .u64 td).wf = true) (w3 : (Lit.int .u8 bt).wf = true) :
    Calls Try.prog 5 #[.slice a len cap, .int .u64 sn, .int .u64 td, .int .u8 bt] w fun e w' => e = .returned (.bool true) ∧ Below w.heap.size w w' := by
  obtain ⟨L, rfl, hL, _⟩ := evs_of hl hm hr
  exact walk_ev _ a cap L sn td bt w rfl hL (bounds_u64 w1) (bounds_u64 w2) (bounds_u8 w3)

end Go.Proofs.Ytpdckjfkkiameaa.peerServes
