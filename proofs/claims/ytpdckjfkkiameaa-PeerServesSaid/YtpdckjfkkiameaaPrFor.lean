/- The contract of For. Conditions: the log's list is no longer than can be. -/
import Derived.Test.YtpdckjfkkiameaaPrLog
import Derived.Test.YtpdckjfkkiameaaVecHas
namespace Go.Proofs.Ytpdckjfkkiameaa
open Go.RowKit
attribute [local go_sem] bmax2_int bmin2_int bmax_two bmin_two blk_alloc blk_setRow blk_setCell blk_drew blk_drewN alloc_setRow cell_setRow_ne drew_setRow drewN_setRow fold_z0 vv_size vv_get vv_set
attribute [local go_sem ↓] exec_load_vv exec_store_vv exec_index_vv exec_eql_vv exec_neq_vv
attribute [local go_sem] loadVV_at storeVV_at indexVV_at eqVV_eql eqVV_neq ne_r2 ne_l2 ne_r3 ne_l3 ne_r4 ne_l4 ne_r5 ne_l5 ne_r6 ne_l6 ne_r7 ne_l7 ne_r8 ne_l8
set_option linter.unusedVariables false
set_option linter.unusedSimpArgs false
attribute [local go_sem] rowN_drew fold_zE evA_size evA_get0 evA_get1 evA_get2 evA_get19 evA_get20 evA_get21 evA_get22 evA_get23 evA_get24 evA_get25 loadEv_at storeEv_at rowN_ev_new
attribute [local go_sem ↓] exec_load_ev exec_store_ev
attribute [local go_sem] fold_ev1

/-- one lacks it, and may be told it. -/
def wantB (a b : Nat → Int) (e : Ev) : Bool := hasB b e.r e.n && !hasB a e.r e.n
def forE (a b : Nat → Int) (n : Int) (L : List Ev) : List Ev := (L.filter (wantB a b)).take n.toNat
theorem filter_succ {p : Ev → Bool} {L : List Ev} {k : Nat} (h : k < L.length) : (L.take (k + 1)).filter p = (L.take k).filter p ++ (if p L[k] then [L[k]] else []) := by
  rw [List.take_succ_eq_append_getElem h, List.filter_append]
  congr 1
  rw [List.filter_cons]
  split <;> simp
theorem filter_le {p : Ev → Bool} {L : List Ev} {k : Nat} : ((L.take k).filter p).length ≤ L.length := Nat.le_trans (List.length_filter_le _ _) (by simp; omega)
theorem filter_stop {p : Ev → Bool} {L : List Ev} {k n : Nat} (h : ((L.take k).filter p).length = n) : (L.take k).filter p = (L.filter p).take n := by
  conv => rhs; rw [← List.take_append_drop k L, List.filter_append]
  rw [← h, List.take_left]
theorem for_none (a b : Nat → Int) (n : Int) (w : World) :
    Calls Try.prog 14 #[.pointer none, .agg (vv a), .agg (vv b), .int .i64 n] w fun e w' => e = .returned (.slice none 0 0) ∧ Below w.heap.size w w' := by
  go_enter Try.func14, Try.ntmps14
  go_wp2
  go_ret
  exact ⟨rfl, by go_grown⟩

set_option maxHeartbeats 1000000 in
theorem for_any (base g : Nat) (v : Value) (L : List Ev) (a b : Nat → Int) (n : Int) (w : World) (h : LOG w base g v L) (hn : L.length ≤ 500000000000) :
    Calls Try.prog 14 #[.pointer (some ⟨g, 0, none⟩), .agg (vv a), .agg (vv b), .int .i64 n] w fun e w' => ∃ x, e = .returned x ∧ Below w.heap.size w w' ∧ OwnEv w' w.heap.size x (forE a b n L) := by
  have hc := h.cell
  have hs := h.own.sl
  have hlt := h.lt
  obtain ⟨av, cap, rfl⟩ := h.own.form
  have HS := Lib.hid hs
  have hg5 : g ≠ w.heap.size := by omega
  have hg6 : g ≠ w.heap.size + 1 := by omega
  clear h hs
  go_enter Try.func14, Try.ntmps14
  go_wp2_with fail
  have k0 := Lib.hid (((Below.refl w.heap.size w).alloc (Nat.le_refl _) (Obj.cells (vv a) 35)).alloc (by simp) (Obj.cells (vv b) 35))
  have k1 := Lib.hid (gblk_alloc (Obj.cells (vv b) 35) (gblk_new w (Obj.cells (vv a) 35)))
  have k2 := gblk_new (w.alloc (Obj.cells (vv a) 35)) (Obj.cells (vv b) 35)
  rw [show (w.alloc (Obj.cells (vv a) 35)).heap.size = w.heap.size + 1 by simp] at k2
  have K2 := Lib.hid k2
  clear k2 hc
  generalize (w.alloc (Obj.cells (vv a) 35)).alloc (Obj.cells (vv b) 35) = w1 at *
  have HS0 : Hid (∀ wr, Below w.heap.size w wr → EvSl wr (.slice av L.length cap) L) := Lib.hid fun wr hb => HS.out.keep hb
  clear HS
  generalize hgg : w.heap.size = g0 at *
  go_loopw [9, 19] (fun v9 v19 wr => ∃ k : Nat, k ≤ L.length ∧ v19 = .int .i64 k ∧ OwnEv wr (g0 + 2) v9 ((L.take k).filter (wantB a b)) ∧ ((L.take k).filter (wantB a b)).length ≤ n.toNat ∧ Below g0 w wr ∧ blk wr g0 = some (.cells (vv a) 35) ∧ blk wr (g0 + 1) = some (.cells (vv b) 35)) (fun _ v19 _ => L.length - (intOf v19).toNat)
  case atStart => exact ⟨0, by omega, rfl, OwnEv.nil _ _, by simp, k0.out, k1.out, K2.out⟩
  case round =>
    obtain ⟨k, hk, rfl, q0, q4, q1, q2, q3⟩ := hrel
    obtain ⟨ao, co, rfl⟩ := q0.form
    have hF := filter_le (p := wantB a b) (L := L) (k := k)
    have hsz : g0 + 1 < wr.heap.size := VBox.lt q3
    by_cases hlt : k < L.length
    · obtain ⟨a', cap', e, hca, hma, h1 | ⟨b', o', ea, hrow⟩⟩ := HS0.out wr q1
      · rw [h1] at hlt; simp at hlt
      simp only [Value.slice.injEq] at e
      obtain ⟨rfl, -, rfl⟩ := e
      subst ea
      have hr := hrow k hlt
      have hst : Hid (((L.take k).filter (wantB a b)).length = n.toNat → (L.take k).filter (wantB a b) = forE a b n L) := Lib.hid fun hh => filter_stop hh
      have hsu := Lib.hid (filter_succ (p := wantB a b) hlt)
      clear hrow
      have hW : Hid (wantB a b L[k] = (hasB b L[k].r L[k].n && !hasB a L[k].r L[k].n)) := Lib.hid rfl
      generalize L[k] = x at *
      generalize (L.take k).filter (wantB a b) = F at *
      have Q0 := Lib.hid q0
      have Q1 := Lib.hid q1
      clear q0 q1
      by_cases hbr : n ≤ F.length
      · have E := Lib.hid (hst.out (by omega))
        go_wp2
        go_ret
        exact ⟨_, rfl, (Q1.out.mono (Nat.le_of_eq hgg)).alloc (by omega) _, by rw [← E.out, hgg]; exact (Q0.out.alloc _).mono (by omega)⟩
      go_wp2_with fail
      have hB := (Below.refl wr.heap.size wr).alloc (Nat.le_refl _) (Obj.cells (evA x) 39)
      replace Q1 := Lib.hid (Q1.out.trans (hB.mono (by omega)))
      replace Q0 := Lib.hid (Q0.out.below hB)
      replace q2 := gblk hB q2
      replace q3 := gblk hB q3
      have qx := gblk_new wr (Obj.cells (evA x) 39)
      have hsz2 := Nat.lt_of_lt_of_le hsz hB.size
      clear hB hr
      generalize wr.alloc (Obj.cells (evA x) 39) = w2 at *
      generalize hgx : wr.heap.size = gx at *
      clear hgx
      refine Calls.mono (has_any b x.r x.n w2) ?_
      rintro e w3 ⟨rfl, hb'⟩
      replace Q1 := Lib.hid (Q1.out.trans (hb'.mono (by omega)))
      replace Q0 := Lib.hid (Q0.out.below hb')
      replace q2 := gblk hb' q2
      replace q3 := gblk hb' q3
      replace qx := gblk hb' qx
      have hsz3 := Nat.lt_of_lt_of_le hsz2 hb'.size
      clear hb'
      cases hb1 : hasB b x.r x.n
      · rw [hb1] at hW
        have hW' : Hid (wantB a b x = false) := Lib.hid hW.out
        have Q2 := Lib.hid q2
        have Q3 := Lib.hid q3
        clear q2 q3 qx
        go_wp2
        go_roundw
        case rel => exact ⟨k + 1, by omega, by go_num, by rw [hsu.out, hW'.out]; simpa using Q0.out, by rw [hsu.out, hW'.out]; simpa using q4, Q1.out, Q2.out, Q3.out⟩
        case measure => simp [intOf]; omega
      have c0 : w3.cell? ⟨gx, 0, none⟩ = some (.int .i64 x.r) := cell_of_row w3 gx 0 _ _ _ qx
      have c1 : w3.cell? ⟨gx, 1, none⟩ = some (.int .i64 x.n) := cell_of_row w3 gx 1 _ _ _ qx
      go_wp2_with fail
      refine Calls.mono (has_any a x.r x.n w3) ?_
      rintro e w4 ⟨rfl, hb'⟩
      replace Q1 := Lib.hid (Q1.out.trans (hb'.mono (by omega)))
      replace Q0 := Lib.hid (Q0.out.below hb')
      have Q2 := Lib.hid (gblk hb' q2)
      have Q3 := Lib.hid (gblk hb' q3)
      replace qx := gblk hb' qx
      have hsz4 := Nat.lt_of_lt_of_le hsz3 hb'.size
      clear hb' c0 c1 q2 q3
      rw [hb1] at hW
      cases hb2 : hasB a x.r x.n
      rotate_left
      · rw [hb2] at hW
        have hW' : Hid (wantB a b x = false) := Lib.hid hW.out
        clear qx
        go_wp2
        go_roundw
        case rel => exact ⟨k + 1, by omega, by go_num, by rw [hsu.out, hW'.out]; simpa using Q0.out, by rw [hsu.out, hW'.out]; simpa using q4, Q1.out, Q2.out, Q3.out⟩
        case measure => simp [intOf]; omega
      rw [hb2] at hW
      have hW' : Hid (wantB a b x = true) := Lib.hid hW.out
      have rx := rowN_blk (n := 26) qx rfl
      have hF2 := Lib.hid (show F.length + [x].length ≤ 600000000000 by simp; omega)
      have kB := Lib.hid ((Below.refl w4.heap.size w4).alloc (Nat.le_refl _) (Obj.cells (evA x) 39))
      have SL := Lib.hid (EvSl.one w4 x)
      have gle : Hid (g0 + 2 ≤ (w4.alloc (Obj.cells (evA x) 39)).heap.size) := Lib.hid (by have := kB.out.size; omega)
      replace Q1 := Lib.hid (Q1.out.trans (kB.out.mono (by omega)))
      replace Q0 := Lib.hid (Q0.out.below kB.out)
      replace Q2 := Lib.hid (gblk kB.out Q2.out)
      replace Q3 := Lib.hid (gblk kB.out Q3.out)
      clear qx kB
      go_wp2_with (first
        | (at_builtin; refine wpList_append_evC rfl _ _ rfl (g0 + 2) (.slice ao F.length co) _ F [x] rfl rfl Q0.out SL.out hF2.out gle.out ?_; intro v1 w5 O1 D1 T1)
        | fail)
      have R1 := Lib.hid (Q1.out.trans (D1.out.mono (show g0 ≤ g0 + 2 by omega)))
      have R2 := Lib.hid (blkB D1.out (show g0 < g0 + 2 by omega) Q2.out)
      have R3 := Lib.hid (blkB D1.out (show g0 + 1 < g0 + 2 by omega) Q3.out)
      have q4' : (F ++ [x]).length ≤ n.toNat := by simp; omega
      refine ⟨⟨k + 1, by omega, by go_num, by rw [hsu.out, hW'.out]; exact O1.out, by rw [hsu.out, hW'.out]; exact q4', R1.out, R2.out, R3.out⟩, by simp [intOf]; omega⟩
    · have e : k = L.length := by omega
      subst e
      have E : Hid ((L.take L.length).filter (wantB a b) = forE a b n L) := Lib.hid (by
        rw [List.take_length] at q4 ⊢
        unfold forE
        rw [List.take_of_length_le q4])
      have Q0 := Lib.hid q0
      have Q1 := Lib.hid q1
      clear q0 q1 q2 q3
      go_wp2
      go_ret
      exact ⟨_, rfl, Q1.out.mono (Nat.le_of_eq hgg), by rw [← E.out, hgg]; exact Q0.out.mono (by omega)⟩

end Go.Proofs.Ytpdckjfkkiameaa
