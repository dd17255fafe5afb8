/- The contracts of the reference's For and Trim. Conditions: the log's list is no longer than can be. -/
import Derived.Test.YtpdckjfkkiameaaPrFor
import Derived.Test.YtpdckjfkkiameaaPrSame2
import Derived.Test.YtpdckjfkkiameaaPrTrim
import Derived.Test.YtpdckjfkkiameaaRefHas
namespace Go.Proofs.Ytpdckjfkkiameaa
open Go.RowKit
attribute [local go_sem] bmax2_int bmin2_int bmax_two bmin_two blk_alloc blk_setRow blk_setCell blk_drew blk_drewN alloc_setRow cell_setRow_ne drew_setRow drewN_setRow fold_z0 vv_size vv_get vv_set
attribute [local go_sem ↓] exec_load_vv exec_store_vv exec_index_vv exec_eql_vv exec_neq_vv
attribute [local go_sem] loadVV_at storeVV_at indexVV_at eqVV_eql eqVV_neq ne_r2 ne_l2 ne_r3 ne_l3 ne_r4 ne_l4 ne_r5 ne_l5 ne_r6 ne_l6 ne_r7 ne_l7 ne_r8 ne_l8
set_option linter.unusedVariables false
set_option linter.unusedSimpArgs false
attribute [local go_sem] rowN_drew fold_zE evA_size evA_get0 evA_get1 evA_get2 evA_get19 evA_get20 evA_get21 evA_get22 evA_get23 evA_get24 evA_get25 loadEv_at storeEv_at rowN_ev_new
attribute [local go_sem ↓] exec_load_ev exec_store_ev
attribute [local go_sem] fold_ev1

abbrev RLOG := LogT 29
theorem forE_succ {a b : Nat → Int} {n : Int} {L : List Ev} {k : Nat} (h : k < L.length) : forE a b n (L.take (k + 1)) = if (forE a b n (L.take k)).length < n.toNat ∧ wantB a b L[k] = true then forE a b n (L.take k) ++ [L[k]] else forE a b n (L.take k) := by
  unfold forE
  rw [filter_succ h, List.length_take]
  generalize (L.take k).filter (wantB a b) = A
  by_cases hw : wantB a b L[k] = true
  · rw [if_pos hw]
    by_cases hl : A.length < n.toNat
    · rw [if_pos ⟨by omega, hw⟩, List.take_of_length_le (by simp; omega), List.take_of_length_le (by omega)]
    · rw [if_neg (by omega), List.take_append_of_le_length (by omega)]
  · rw [if_neg hw, if_neg (fun e => hw e.2), List.append_nil]
theorem take_snoc {A : List Ev} {x : Ev} {n : Nat} (h : A.length < n) : (A ++ [x]).take n = A ++ [x] := List.take_of_length_le (by simp; omega)
set_option maxHeartbeats 2000000 in
theorem rfor_any (base g : Nat) (v : Value) (L : List Ev) (a b : Nat → Int) (n : Int) (w : World) (h : RLOG w base g v L) (hn : L.length ≤ 500000000000) :
    Calls Try.prog 15 #[.pointer (some ⟨g, 0, none⟩), .agg (vv a), .agg (vv b), .int .i64 n] w fun e w' => ∃ x, e = .returned x ∧ Below w.heap.size w w' ∧ OwnEv w' w.heap.size x (forE a b n L) := by
  have hc := h.cell
  have hs := h.own.sl
  have hlt := h.lt
  obtain ⟨av, cap, rfl⟩ := h.own.form
  have HS := Lib.hid hs
  have HC : Hid (∀ wr, Below w.heap.size w wr → wr.cell? ⟨g, 0, none⟩ = some (.slice av L.length cap)) := Lib.hid fun wr hb => gcell hb hc
  have hg5 : g ≠ w.heap.size := by omega
  have hg6 : g ≠ w.heap.size + 1 := by omega
  clear h hs
  go_enter Try.func15, Try.ntmps15
  go_wp2_with fail
  have k0 := Lib.hid (((Below.refl w.heap.size w).alloc (Nat.le_refl _) (Obj.cells (vv a) 35)).alloc (by simp) (Obj.cells (vv b) 35))
  have k1 := Lib.hid (gblk_alloc (Obj.cells (vv b) 35) (gblk_new w (Obj.cells (vv a) 35)))
  have k2 := gblk_new (w.alloc (Obj.cells (vv a) 35)) (Obj.cells (vv b) 35)
  rw [show (w.alloc (Obj.cells (vv a) 35)).heap.size = w.heap.size + 1 by simp] at k2
  have K2 := Lib.hid k2
  clear k2 hc
  generalize (w.alloc (Obj.cells (vv a) 35)).alloc (Obj.cells (vv b) 35) = w1 at *
  have HS0 : Hid (∀ wr, Below w.heap.size w wr → EvSl wr (.slice av L.length cap) L) := Lib.hid fun wr hb => HS.out.keep hb
  clear HS
  generalize hgg : w.heap.size = g0 at *
  go_loopw [9, 17] (fun v9 v17 wr => ∃ k : Nat, k ≤ L.length ∧ v17 = .int .i64 k ∧ OwnEv wr (g0 + 2) v9 (forE a b n (L.take k)) ∧ Below g0 w wr ∧ blk wr g0 = some (.cells (vv a) 35) ∧ blk wr (g0 + 1) = some (.cells (vv b) 35)) (fun _ v17 _ => L.length - (intOf v17).toNat)
  case atStart => exact ⟨0, by omega, rfl, by simpa [forE] using OwnEv.nil w1 (g0 + 2), k0.out, k1.out, K2.out⟩
  case round =>
    obtain ⟨k, hk, rfl, q0, q1, q2, q3⟩ := hrel
    obtain ⟨ao, co, rfl⟩ := q0.form
    have hsz : g0 + 1 < wr.heap.size := VBox.lt q3
    have hF : (forE a b n (L.take k)).length ≤ L.length := by
      unfold forE
      rw [List.length_take]
      exact Nat.le_trans (Nat.min_le_right _ _) filter_le
    have hF2 : (forE a b n (L.take k)).length ≤ n.toNat := by unfold forE; rw [List.length_take]; omega
    by_cases hlt2 : k < L.length
    · obtain ⟨b', o', rfl, hb', hr⟩ := (HS0.out wr q1).row hlt2
      have hcg := HC.out wr q1
      have hgl : g < wr.heap.size := by omega
      obtain ⟨rs, rc⟩ := rowN_cells hr
      have c0 := rc 0 (by omega)
      have c1 := rc 1 (by omega)
      rw [Nat.add_zero, evA_get0] at c0
      rw [evA_get1] at c1
      have hkn : (k : Int) < L.length := by omega
      have hsu : Hid (forE a b n (L.take (k + 1)) = if (forE a b n (L.take k)).length < n.toNat ∧ wantB a b L[k] = true then forE a b n (L.take k) ++ [L[k]] else forE a b n (L.take k)) := Lib.hid (forE_succ hlt2)
      clear rc rs
      have hW : Hid (wantB a b L[k] = (hasB b L[k].r L[k].n && !hasB a L[k].r L[k].n)) := Lib.hid rfl
      generalize L[k] = x at *
      generalize forE a b n (L.take k) = F at *
      have Q0 := Lib.hid q0
      have Q1 := Lib.hid q1
      clear q0 q1
      have hB := (Below.refl wr.heap.size wr).alloc (Nat.le_refl _) (Obj.cells #[Value.int .i64 x.r, Value.int .i64 x.n] 33)
      replace Q1 := Lib.hid (Q1.out.trans (hB.mono (by omega)))
      replace Q0 := Lib.hid (Q0.out.below hB)
      have Q2 := Lib.hid (gblk hB q2)
      have Q3 := Lib.hid (gblk hB q3)
      have qx := gblk_new wr (Obj.cells #[Value.int .i64 x.r, Value.int .i64 x.n] 33)
      have hr2 := Lib.hid (rowN_keep hB hr)
      have hcg2 := Lib.hid (gcell hB hcg)
      have hsz2 := Nat.lt_of_lt_of_le hsz hB.size
      have hg0 : g0 ≠ wr.heap.size := by omega
      have hg1 : g0 + 1 ≠ wr.heap.size := by omega
      have hgn : g ≠ wr.heap.size := by omega
      clear hB
      by_cases hbr : (F.length : Int) < n
      rotate_left
      · have hsu' : Hid (forE a b n (L.take (k + 1)) = F) := Lib.hid (by rw [hsu.out, if_neg (by omega)])
        clear qx
        go_wp2_with fail
        exact ⟨⟨k + 1, by omega, by go_num, by rw [hsu'.out]; exact Q0.out, Q1.out, Q2.out, Q3.out⟩, by simp [intOf]; omega⟩
      have hbr2 : F.length < n.toNat := by omega
      go_wp2_with fail
      have q2' := Q2.out
      have q3' := Q3.out
      clear q2 q3 c0 c1 hr hcg
      generalize wr.alloc (Obj.cells #[Value.int .i64 x.r, Value.int .i64 x.n] 33) = w2 at *
      generalize hgx : wr.heap.size = gx at *
      clear hgx
      refine Calls.mono (rhas_any b x.r x.n w2) ?_
      rintro e w3 ⟨rfl, hb'⟩
      replace Q1 := Lib.hid (Q1.out.trans (hb'.mono (by omega)))
      replace Q0 := Lib.hid (Q0.out.below hb')
      replace Q2 := Lib.hid (gblk hb' Q2.out)
      replace Q3 := Lib.hid (gblk hb' Q3.out)
      replace qx := gblk hb' qx
      replace hr2 := Lib.hid (rowN_keep hb' hr2.out)
      replace hcg2 := Lib.hid (gcell hb' hcg2.out)
      have hsz3 := Nat.lt_of_lt_of_le hsz2 hb'.size
      clear hb' q2' q3'
      cases hb1 : hasB b x.r x.n
      · rw [hb1] at hW
        have hW' : Hid (wantB a b x = false) := Lib.hid hW.out
        have hsu' : Hid (forE a b n (L.take (k + 1)) = F) := Lib.hid (by rw [hsu.out, if_neg (by rw [hW'.out]; simp)])
        clear qx
        go_wp2
        go_roundw
        case rel => exact ⟨k + 1, by omega, by go_num, by rw [hsu'.out]; exact Q0.out, Q1.out, Q2.out, Q3.out⟩
        case measure => simp [intOf]; omega
      have c0 : w3.cell? ⟨gx, 0, none⟩ = some (.int .i64 x.r) := cell_of_row w3 gx 0 _ _ _ qx
      have c1 : w3.cell? ⟨gx, 1, none⟩ = some (.int .i64 x.n) := cell_of_row w3 gx 1 _ _ _ qx
      have q2' := Q2.out
      go_wp2_with fail
      refine Calls.mono (rhas_any a x.r x.n w3) ?_
      rintro e w4 ⟨rfl, hb'⟩
      replace Q1 := Lib.hid (Q1.out.trans (hb'.mono (by omega)))
      replace Q0 := Lib.hid (Q0.out.below hb')
      replace Q2 := Lib.hid (gblk hb' Q2.out)
      replace Q3 := Lib.hid (gblk hb' Q3.out)
      replace hr2 := Lib.hid (rowN_keep hb' hr2.out)
      replace hcg2 := Lib.hid (gcell hb' hcg2.out)
      have hsz4 := Nat.lt_of_lt_of_le hsz3 hb'.size
      clear hb' c0 c1 q2' qx
      rw [hb1] at hW
      cases hb2 : hasB a x.r x.n
      rotate_left
      · rw [hb2] at hW
        have hW' : Hid (wantB a b x = false) := Lib.hid hW.out
        have hsu' : Hid (forE a b n (L.take (k + 1)) = F) := Lib.hid (by rw [hsu.out, if_neg (by rw [hW'.out]; simp)])
        go_wp2
        go_roundw
        case rel => exact ⟨k + 1, by omega, by go_num, by rw [hsu'.out]; exact Q0.out, Q1.out, Q2.out, Q3.out⟩
        case measure => simp [intOf]; omega
      rw [hb2] at hW
      have hW' : Hid (wantB a b x = true) := Lib.hid hW.out
      have hsu' : Hid (forE a b n (L.take (k + 1)) = F ++ [x]) := Lib.hid (by rw [hsu.out, if_pos ⟨hbr2, hW'.out⟩])
      have hFF := Lib.hid (show F.length + [x].length ≤ 600000000000 by simp; omega)
      have kB := Lib.hid ((Below.refl w4.heap.size w4).alloc (Nat.le_refl _) (Obj.cells (evA x) 39))
      have SL := Lib.hid (EvSl.one w4 x)
      have gle : Hid (g0 + 2 ≤ (w4.alloc (Obj.cells (evA x) 39)).heap.size) := Lib.hid (by have := kB.out.size; omega)
      replace Q1 := Lib.hid (Q1.out.trans (kB.out.mono (by omega)))
      replace Q0 := Lib.hid (Q0.out.below kB.out)
      replace Q2 := Lib.hid (gblk kB.out Q2.out)
      replace Q3 := Lib.hid (gblk kB.out Q3.out)
      have hr3 := hr2.out
      have hcg3 := hcg2.out
      clear kB
      go_wp2_with (first
        | (at_builtin; refine wpList_append_evC rfl _ _ rfl (g0 + 2) (.slice ao F.length co) _ F [x] rfl rfl Q0.out SL.out hFF.out gle.out ?_; intro v1 w5 O1 D1 T1)
        | fail)
      have R1 := Lib.hid (Q1.out.trans (D1.out.mono (show g0 ≤ g0 + 2 by omega)))
      have R2 := Lib.hid (blkB D1.out (show g0 < g0 + 2 by omega) Q2.out)
      have R3 := Lib.hid (blkB D1.out (show g0 + 1 < g0 + 2 by omega) Q3.out)
      refine ⟨⟨k + 1, by omega, by go_num, by rw [hsu'.out]; exact O1.out, R1.out, R2.out, R3.out⟩, by simp [intOf]; omega⟩
    · have e : k = L.length := by omega
      subst e
      have E : Hid (forE a b n (L.take L.length) = forE a b n L) := Lib.hid (by rw [List.take_length])
      have Q0 := Lib.hid q0
      have Q1 := Lib.hid q1
      clear q0 q1 q2 q3
      go_wp2
      go_ret
      exact ⟨_, rfl, Q1.out.mono (Nat.le_of_eq hgg), by rw [← E.out, hgg]; exact Q0.out.mono (by omega)⟩

set_option maxHeartbeats 2000000 in
theorem rtrim_any (base g : Nat) (v : Value) (L : List Ev) (a : Nat → Int) (w : World) (h : RLOG w base g v L) (hn : L.length ≤ 500000000000) :
    Calls Try.prog 17 #[.pointer (some ⟨g, 0, none⟩), .agg (vv a)] w fun e w' => e = .returned (.int .i64 ((L.length : Int) - (L.filter (keptB a)).length)) ∧ Fr (fun k => k = g) w w' ∧ ∃ v', RLOG w' base g v' (L.filter (keptB a)) ∧ ∀ k, v'.ownBlock = some k → w.heap.size ≤ k := by
  have hc := h.cell
  have hs := h.own.sl
  have hlt := h.lt
  have hbl := h.base_le
  have hh := h.head
  obtain ⟨av, cap, rfl⟩ := h.own.form
  have HS := Lib.hid hs
  have HC : Hid (∀ wr, Below w.heap.size w wr → blk wr g = some (.cells #[.slice av L.length cap] 29 (0, 0))) := Lib.hid fun wr hb => gblk hb hh
  have hg5 : g ≠ w.heap.size := by omega
  clear h hs hh
  go_enter Try.func17, Try.ntmps17
  go_wp2_with fail
  have k0 := Lib.hid ((Below.refl w.heap.size w).alloc (Nat.le_refl _) (Obj.cells (vv a) 35))
  have k1 := Lib.hid (gblk_new w (Obj.cells (vv a) 35))
  clear hc
  generalize w.alloc (Obj.cells (vv a) 35) = w1 at *
  have HS0 : Hid (∀ wr, Below w.heap.size w wr → EvSl wr (.slice av L.length cap) L) := Lib.hid fun wr hb => HS.out.keep hb
  clear HS
  generalize hgg : w.heap.size = g0 at *
  go_loopw [5, 13] (fun v5 v13 wr => ∃ k : Nat, k ≤ L.length ∧ v13 = .int .i64 k ∧ OwnEv wr (g0 + 1) v5 ((L.take k).filter (keptB a)) ∧ Below g0 w wr ∧ blk wr g0 = some (.cells (vv a) 35)) (fun _ v13 _ => L.length - (intOf v13).toNat)
  case atStart => exact ⟨0, by omega, rfl, OwnEv.nil w1 (g0 + 1), k0.out, k1.out⟩
  case round =>
    obtain ⟨k, hk, rfl, q0, q1, q2⟩ := hrel
    obtain ⟨ao, co, rfl⟩ := q0.form
    have hsz : g0 < wr.heap.size := VBox.lt q2
    have hF : ((L.take k).filter (keptB a)).length ≤ L.length := filter_le
    by_cases hlt2 : k < L.length
    · obtain ⟨b', o', rfl, hb', hr⟩ := (HS0.out wr q1).row hlt2
      have hcg := HC.out wr q1
      obtain ⟨rs, rc⟩ := rowN_cells hr
      have c0 := rc 0 (by omega)
      have c1 := rc 1 (by omega)
      rw [Nat.add_zero, evA_get0] at c0
      rw [evA_get1] at c1
      have hkn : (k : Int) < L.length := by omega
      have hsu := Lib.hid (filter_succ (p := keptB a) hlt2)
      clear rc rs
      have hW : Hid (keptB a L[k] = !hasB a L[k].r L[k].n) := Lib.hid rfl
      generalize L[k] = x at *
      generalize (L.take k).filter (keptB a) = F at *
      have Q0 := Lib.hid q0
      have Q1 := Lib.hid q1
      clear q0 q1
      have hcc := cell_of_row wr g 0 _ _ _ hcg
      go_wp2_with fail
      refine wp_region_held_drew (S := fun w' => (Below g0 w w' ∧ g0 ≤ w'.heap.size) ∧ blk w' g0 = some (.cells (vv a) 35) ∧ w'.cell? ⟨g, 0, none⟩ = some (.slice (some ⟨b', o', none⟩) L.length cap) ∧ w'.cell? ⟨b', o' + k * 26, none⟩ = some (.int .i64 x.r) ∧ w'.cell? ⟨b', o' + k * 26 + 1, none⟩ = some (.int .i64 x.n) ∧ rowN 26 w' b' (o' + k * 26) = some (evA x) ∧ OwnEv w' (g0 + 1) (.slice ao F.length co) F) (by kernel_rfl) ⟨⟨Q1.out.drew, Nat.le_of_lt hsz⟩, q2, hcc, c0, c1, hr, Q0.out⟩ (fun hHeld => ?_)
      refine wpAnyH_take (i := 0) (v := ?_) rfl (by kernel_rfl) (by kernel_rfl) (by kernel_rfl) (fun _ _ _ h => h) (Or.inl ⟨by rfl, ?_⟩) hHeld ?_
      rotate_left
      · intro w hSw; (try dsimp only at hSw); (try simp only [List.getElem_toArray, List.getElem_cons_succ, List.getElem_cons_zero]); (go_simp; try with_reducible rfl)
      try simp only [List.getElem_toArray, List.getElem_cons_succ, List.getElem_cons_zero, Act.put, List.setIfInBounds_toArray, List.set_cons_zero, List.set_cons_succ]
      refine wpAnyH_take (i := 1) (v := ?_) rfl (by kernel_rfl) (by kernel_rfl) (by kernel_rfl) (fun _ _ _ h => h) (Or.inl ⟨by rfl, ?_⟩) hHeld ?_
      rotate_left
      · intro w hSw; (try dsimp only at hSw); (try simp only [List.getElem_toArray, List.getElem_cons_succ, List.getElem_cons_zero]); (go_simp; try with_reducible rfl)
      try simp only [List.getElem_toArray, List.getElem_cons_succ, List.getElem_cons_zero, Act.put, List.setIfInBounds_toArray, List.set_cons_zero, List.set_cons_succ]
      refine wpAnyH_take (i := 2) (v := ?_) rfl (by kernel_rfl) (by kernel_rfl) (by kernel_rfl) (fun _ _ _ h => h) (Or.inl ⟨by rfl, ?_⟩) hHeld ?_
      rotate_left
      · intro w hSw; (try dsimp only at hSw); (try simp only [List.getElem_toArray, List.getElem_cons_succ, List.getElem_cons_zero]); (go_simp; try with_reducible rfl)
      try simp only [List.getElem_toArray, List.getElem_cons_succ, List.getElem_cons_zero, Act.put, List.setIfInBounds_toArray, List.set_cons_zero, List.set_cons_succ]
      refine wpAnyH_take (i := 3) (v := ?_) rfl (by kernel_rfl) (by kernel_rfl) (by kernel_rfl) (fun _ _ _ h => h) (Or.inl ⟨by rfl, ?_⟩) hHeld ?_
      rotate_left
      · intro w hSw; (try dsimp only at hSw); (try simp only [List.getElem_toArray, List.getElem_cons_succ, List.getElem_cons_zero]); (go_simp; try with_reducible rfl)
      try simp only [List.getElem_toArray, List.getElem_cons_succ, List.getElem_cons_zero, Act.put, List.setIfInBounds_toArray, List.set_cons_zero, List.set_cons_succ]
      refine wpAnyH_take (i := 4) (v := ?_) rfl (by kernel_rfl) (by kernel_rfl) (by kernel_rfl) (fun _ _ _ h => h) (Or.inl ⟨by rfl, ?_⟩) hHeld ?_
      rotate_left
      · intro w hSw; (try dsimp only at hSw); (try simp only [List.getElem_toArray, List.getElem_cons_succ, List.getElem_cons_zero]); (go_simp; try with_reducible rfl)
      try simp only [List.getElem_toArray, List.getElem_cons_succ, List.getElem_cons_zero, Act.put, List.setIfInBounds_toArray, List.set_cons_zero, List.set_cons_succ]
      refine wpAnyH_take (i := 5) (v := ?_) rfl (by kernel_rfl) (by kernel_rfl) (by kernel_rfl) (fun _ _ _ h => h) (Or.inl ⟨by rfl, ?_⟩) hHeld ?_
      rotate_left
      · intro w hSw; (try dsimp only at hSw); (try simp only [List.getElem_toArray, List.getElem_cons_succ, List.getElem_cons_zero]); (go_simp; try with_reducible rfl)
      try simp only [List.getElem_toArray, List.getElem_cons_succ, List.getElem_cons_zero, Act.put, List.setIfInBounds_toArray, List.set_cons_zero, List.set_cons_succ]
      refine wpAnyH_take (i := 6) (v := ?_) rfl (by kernel_rfl) (by kernel_rfl) (by kernel_rfl) (fun _ _ _ h => h) (Or.inl ⟨by rfl, ?_⟩) hHeld ?_
      rotate_left
      · intro w hSw; (try dsimp only at hSw); (try simp only [List.getElem_toArray, List.getElem_cons_succ, List.getElem_cons_zero]); (go_simp; try with_reducible rfl)
      try simp only [List.getElem_toArray, List.getElem_cons_succ, List.getElem_cons_zero, Act.put, List.setIfInBounds_toArray, List.set_cons_zero, List.set_cons_succ]
      refine wpAnyH_take (i := 7) (v := ?_) rfl (by kernel_rfl) (by kernel_rfl) (by kernel_rfl) (fun _ _ _ h => h) (Or.inl ⟨by rfl, ?_⟩) hHeld ?_
      rotate_left
      · intro w hSw; (try dsimp only at hSw); (try simp only [List.getElem_toArray, List.getElem_cons_succ, List.getElem_cons_zero]); (go_simp; try with_reducible rfl)
      try simp only [List.getElem_toArray, List.getElem_cons_succ, List.getElem_cons_zero, Act.put, List.setIfInBounds_toArray, List.set_cons_zero, List.set_cons_succ]
      refine wpAnyH_take (i := 8) (v := ?_) rfl (by kernel_rfl) (by kernel_rfl) (by kernel_rfl) (fun _ _ _ h => h) (Or.inl ⟨by rfl, ?_⟩) hHeld ?_
      rotate_left
      · intro w hSw; (try dsimp only at hSw); (try simp only [List.getElem_toArray, List.getElem_cons_succ, List.getElem_cons_zero]); (go_simp; try with_reducible rfl)
      try simp only [List.getElem_toArray, List.getElem_cons_succ, List.getElem_cons_zero, Act.put, List.setIfInBounds_toArray, List.set_cons_zero, List.set_cons_succ]
      refine wpAnyH_ready (rs := [9]) (by kernel_rfl) (by simp) ?_
      refine AllReadyH.cons rfl (fun K hK => ?_) AllReadyH.nil
      go_simp
      (refine Calls.mono (rhas_any a x.r x.n _) ?_; rintro e w' ⟨rfl, hb'⟩)
      refine hK.out _ _ ⟨⟨hHeld.1.1.trans (hb'.mono hHeld.1.2), Nat.le_trans hHeld.1.2 hb'.size⟩, gblk hb' hHeld.2.1, gcell hb' hHeld.2.2.1, gcell hb' hHeld.2.2.2.1, gcell hb' hHeld.2.2.2.2.1, rowN_keep hb' hHeld.2.2.2.2.2.1, hHeld.2.2.2.2.2.2.below hb'⟩ (fun hNew => ?_)
      clear hK K hHeld hb'
      have hHeld := hNew
      clear hNew
      try simp only [List.getElem_toArray, List.getElem_cons_succ, List.getElem_cons_zero, Act.put, List.setIfInBounds_toArray, List.set_cons_zero, List.set_cons_succ]
      refine wpAnyH_take (i := 10) (v := ?_) rfl (by kernel_rfl) (by kernel_rfl) (by kernel_rfl) (fun _ _ _ h => h) (Or.inl ⟨by rfl, ?_⟩) hHeld ?_
      rotate_left
      · intro w hSw; (try dsimp only at hSw); (try simp only [List.getElem_toArray, List.getElem_cons_succ, List.getElem_cons_zero]); (go_simp; try with_reducible rfl)
      try simp only [List.getElem_toArray, List.getElem_cons_succ, List.getElem_cons_zero, Act.put, List.setIfInBounds_toArray, List.set_cons_zero, List.set_cons_succ]
      refine wpAnyH_done (by kernel_rfl) ?_ _
      have Q := Lib.hid hHeld
      clear hHeld Q0 Q1 q2 hcc c0 c1 hr hcg
      cases hh : hasB a x.r x.n
      rotate_left
      · have hsu' : Hid ((L.take (k + 1)).filter (keptB a) = F) := Lib.hid (by rw [hsu.out, hW.out, hh]; simp)
        go_wp2
        go_roundw
        case rel => exact ⟨k + 1, by omega, by go_num, by rw [hsu'.out]; exact Q.out.2.2.2.2.2.2, Q.out.1.1, Q.out.2.1⟩
        case measure => simp [intOf]; omega
      have hsu' : Hid ((L.take (k + 1)).filter (keptB a) = F ++ [x]) := Lib.hid (by rw [hsu.out, hW.out, hh]; simp)
      have hFF := Lib.hid (show F.length + [x].length ≤ 600000000000 by simp; omega)
      have hcg3 := Q.out.2.2.1
      have hr3 := Q.out.2.2.2.2.2.1
      have hgz : g0 < w'.heap.size := VBox.lt Q.out.2.1
      have kB := Lib.hid ((Below.refl w'.heap.size w').alloc (Nat.le_refl _) (Obj.cells (evA x) 39))
      have SL := Lib.hid (EvSl.one w' x)
      have gle : Hid (g0 + 1 ≤ (w'.alloc (Obj.cells (evA x) 39)).heap.size) := Lib.hid (by have := kB.out.size; omega)
      have Q1 := Lib.hid (Q.out.1.1.trans (kB.out.mono (by omega)))
      have Q0 := Lib.hid (Q.out.2.2.2.2.2.2.below kB.out)
      have Q2 := Lib.hid (gblk kB.out Q.out.2.1)
      clear kB Q
      go_wp2_with (first
        | (at_builtin; refine wpList_append_evC rfl _ _ rfl (g0 + 1) (.slice ao F.length co) _ F [x] rfl rfl Q0.out SL.out hFF.out gle.out ?_; intro v1 w5 O1 D1 T1)
        | fail)
      have R1 := Lib.hid (Q1.out.trans (D1.out.mono (show g0 ≤ g0 + 1 by omega)))
      have R2 := Lib.hid (blkB D1.out (show g0 < g0 + 1 by omega) Q2.out)
      exact ⟨⟨k + 1, by omega, by go_num, by rw [hsu'.out]; exact O1.out, R1.out, R2.out⟩, by simp [intOf]; omega⟩
    · have e : k = L.length := by omega
      subst e
      rw [List.take_length] at q0 hF
      have kh := HC.out wr q1
      have hcc := cell_of_row wr g 0 _ _ _ kh
      have hf := frozen_of_row wr g 0 _ _ kh
      have hne : (Value.slice ao (L.filter (keptB a)).length co).ownBlock ≠ some g := fun e => by
        have := (q0.lt g e).1
        omega
      have P := Lib.hid (LogT.put kh (q0.mono (b2 := base) (by omega)) hne hbl)
      have PF : Hid (Fr (fun k => k = g) w (wr.setCell ⟨g, 0, none⟩ (Value.slice ao (L.filter (keptB a)).length co))) := Lib.hid ((Fr.of_below (by rw [hgg]; exact q1)).trans (Fr.setCell wr g 0 _ rfl))
      have PV : Hid (∀ k, (Value.slice ao (L.filter (keptB a)).length co).ownBlock = some k → g0 ≤ k) := Lib.hid fun k e => by
        have := (q0.lt k e).1
        omega
      clear q0 q1 q2 kh hne
      go_wp2
      go_ret
      exact ⟨rfl, PF.out, _, P.out, by rw [hgg]; exact PV.out⟩

end Go.Proofs.Ytpdckjfkkiameaa
