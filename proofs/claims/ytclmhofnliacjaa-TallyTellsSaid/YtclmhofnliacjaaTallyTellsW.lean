/- The walk of polyphonylaw12.TallyTells: it returns true, and what was there is as it was. No conditions. -/
import Derived.Test.YtclmhofnliacjaaTallyAwake
import Derived.Test.YtclmhofnliacjaaTallyBy
import Derived.Test.YtclmhofnliacjaaTallyCheck
namespace Go.Proofs.Ytclmhofnliacjaa.tallyTells
open Go.RowKit
attribute [local go_sem] bmax2_int bmin2_int bmax_two bmin_two blk_alloc blk_setRow blk_setCell blk_drew blk_drewN alloc_setRow cell_setRow_ne drew_setRow drewN_setRow fold_z0 vv_size vv_get vv_set
attribute [local go_sem ↓] exec_load_vv exec_store_vv exec_index_vv exec_eql_vv exec_neq_vv
attribute [local go_sem] loadVV_at storeVV_at indexVV_at eqVV_eql eqVV_neq ne_r2 ne_l2 ne_r3 ne_l3 ne_r4 ne_l4 ne_r5 ne_l5 ne_r6 ne_l6 ne_r7 ne_l7 ne_r8 ne_l8
set_option linter.unusedVariables false
set_option linter.unusedSimpArgs false
attribute [local go_sem] rowN_drew fold_zE evA_size evA_get0 evA_get1 evA_get2 evA_get19 evA_get20 evA_get21 evA_get22 evA_get23 evA_get24 evA_get25 loadEv_at storeEv_at rowN_ev_new
attribute [local go_sem ↓] exec_load_ev exec_store_ev

theorem size_lt {w2 : World} {k : Nat} {o : Obj} (h : blk w2 k = some o) : k < w2.heap.size := by
  unfold blk at h
  exact (Array.getElem?_eq_some_iff.1 h).1

set_option maxRecDepth 100000 in
set_option maxHeartbeats 4000000 in
theorem walk_ev (v : Value) (a : Option Addr) (cap : Nat) (L : List Ev) (n : Int) (w : World) (hv : v = .slice a L.length cap) (h : EvSl w v L) :
    Calls Try.prog 5 #[v, .int .i64 n] w fun e w' => e = .returned (.bool true) ∧ Below w.heap.size w w' := by
  subst hv
  have HS := Lib.hid h
  clear h
  go_enter Try.func5, Try.ntmps5
  go_wp2_with fail
  refine Calls.mono (awake12_any _) ?_
  rintro e w2 ⟨rfl, hb'⟩
  have HB := Lib.hid hb'
  have HS2 := Lib.hid (HS.out.keep hb')
  clear hb' HS
  by_cases hL : (L.length : Int) > 2000
  · go_wp2_with fail
    refine Calls.mono (awake12_any _) ?_
    rintro e w3 ⟨rfl, hb'⟩
    have HB3 := Lib.hid hb'
    clear hb'
    go_wp2
    go_ret
    exact ⟨rfl, gbelow HB3.out HB.out⟩
  · have hL' : L.length ≤ 4194304 := by omega
    have HL := Lib.hid hL'
    clear hL'
    go_wp2_with fail
    refine Calls.mono (by_any _ L _ HS2.out HL.out) ?_
    rintro e w3 ⟨rfl, hb'⟩
    have HB3 := Lib.hid (gbelow hb' HB.out)
    have HS3 := Lib.hid (HS2.out.keep hb')
    clear hb' HB HS2
    have HBY : Hid (∀ k : Nat, byE L k = ofE L k) := Lib.hid fun k => rfl
    generalize byE L = B at *
    go_wp2_with fail
    have k1 : blk (w3.alloc (Obj.cells (vv B) 25)) w3.heap.size = some (.cells (vv B) 25) := gblk_new w3 _
    have k0 := HB3.out.alloc HB3.out.size (Obj.cells (vv B) 25)
    have k2 := HS3.out.keep ((Below.refl w3.heap.size w3).alloc (Nat.le_refl _) (Obj.cells (vv B) 25))
    generalize w3.alloc (Obj.cells (vv B) 25) = w4 at *
    generalize w3.heap.size = g at *
    have H0 := Lib.hid k0
    have H1 := Lib.hid k1
    have H2 := Lib.hid k2
    clear k0 k1 k2 HB3 HS3
    go_loopw [17] (fun i wr => ∃ k : Nat, k ≤ 16 ∧ i = .int .i64 k ∧ Below w4.heap.size w4 wr) (fun i _ => 16 - (intOf i).toNat)
    case atStart => exact ⟨0, by omega, rfl, Below.refl _ _⟩
    case round =>
      obtain ⟨k, hk, rfl, hb⟩ := hrel
      by_cases hlt : k < 16
      · have HBk := Lib.hid hb
        have HSk := Lib.hid (H2.out.keep hb)
        have hc : wr.cell? ⟨g, k, none⟩ = some (.int .i64 (B k)) := (cell_of_row wr g k _ _ _ (gblk hb H1.out)).trans (vv_get B hlt)
        clear hb
        go_wp2_with fail
        refine wp_region_held_drew (S := fun w' => Below w4.heap.size w4 w' ∧ EvSl w' (Value.slice a L.length cap) L ∧ w'.cell? ⟨g, k, none⟩ = some (.int .i64 (B k))) (by kernel_rfl) ⟨HBk.out.drew, HSk.out.keep (Below.refl _ _).drew, hc⟩ (fun hHeld => ?_)
        refine wpAnyH_take (i := 0) (v := ?_) rfl (by kernel_rfl) (by kernel_rfl) (by kernel_rfl) (fun _ _ _ h => h) (Or.inl ⟨by rfl, ?_⟩) hHeld ?_
        rotate_left
        · intro w hSw; (try dsimp only at hSw); (try simp only [List.getElem_toArray, List.getElem_cons_succ, List.getElem_cons_zero]); (go_simp; try with_reducible rfl)
        try simp only [List.getElem_toArray, List.getElem_cons_succ, List.getElem_cons_zero, Act.put, List.setIfInBounds_toArray, List.set_cons_zero, List.set_cons_succ]
        refine wpAnyH_take (i := 1) (v := ?_) rfl (by kernel_rfl) (by kernel_rfl) (by kernel_rfl) (fun _ _ _ h => h) (Or.inl ⟨by rfl, ?_⟩) hHeld ?_
        rotate_left
        · intro w hSw; (try dsimp only at hSw); (try simp only [List.getElem_toArray, List.getElem_cons_succ, List.getElem_cons_zero]); (go_simp; try with_reducible rfl)
        try simp only [List.getElem_toArray, List.getElem_cons_succ, List.getElem_cons_zero, Act.put, List.setIfInBounds_toArray, List.set_cons_zero, List.set_cons_succ]
        refine wpAnyH_take (i := 2) (v := ?_) rfl (by kernel_rfl) (by kernel_rfl) (by kernel_rfl) (fun _ _ _ h => h) (Or.inl ⟨by rfl, ?_⟩) hHeld ?_
        rotate_left
        · intro w hSw; (try dsimp only at hSw); (try simp only [List.getElem_toArray, List.getElem_cons_succ, List.getElem_cons_zero]); (go_simp; try with_reducible rfl)
        try simp only [List.getElem_toArray, List.getElem_cons_succ, List.getElem_cons_zero, Act.put, List.setIfInBounds_toArray, List.set_cons_zero, List.set_cons_succ]
        refine wpAnyH_take (i := 3) (v := ?_) rfl (by kernel_rfl) (by kernel_rfl) (by kernel_rfl) (fun _ _ _ h => h) (Or.inl ⟨by rfl, ?_⟩) hHeld ?_
        rotate_left
        · intro w hSw; (try dsimp only at hSw); (try simp only [List.getElem_toArray, List.getElem_cons_succ, List.getElem_cons_zero]); (go_simp; try with_reducible rfl)
        try simp only [List.getElem_toArray, List.getElem_cons_succ, List.getElem_cons_zero, Act.put, List.setIfInBounds_toArray, List.set_cons_zero, List.set_cons_succ]
        refine wpAnyH_take (i := 4) (v := ?_) rfl (by kernel_rfl) (by kernel_rfl) (by kernel_rfl) (fun _ _ _ h => h) (Or.inl ⟨by rfl, ?_⟩) hHeld ?_
        rotate_left
        · intro w hSw; (try dsimp only at hSw); (try simp only [List.getElem_toArray, List.getElem_cons_succ, List.getElem_cons_zero]); (go_simp; try with_reducible rfl)
        try simp only [List.getElem_toArray, List.getElem_cons_succ, List.getElem_cons_zero, Act.put, List.setIfInBounds_toArray, List.set_cons_zero, List.set_cons_succ]
        refine wpAnyH_ready (rs := [5]) (by kernel_rfl) (by simp) ?_
        refine AllReadyH.cons rfl (fun K hK => ?_) AllReadyH.nil
        go_simp
        (refine Calls.mono (of_any _ L _ _ hHeld.2.1 HL.out) ?_; rintro e w' ⟨rfl, hb'⟩)
        refine hK.out _ _ ⟨gbelow hb' hHeld.1, hHeld.2.1.keep hb', gcell hb' hHeld.2.2⟩ (fun hNew => ?_)
        clear hK K hHeld hb'
        have hHeld := hNew
        clear hNew
        try simp only [List.getElem_toArray, List.getElem_cons_succ, List.getElem_cons_zero, Act.put, List.setIfInBounds_toArray, List.set_cons_zero, List.set_cons_succ]
        refine wpAnyH_take (i := 6) (v := ?_) rfl (by kernel_rfl) (by kernel_rfl) (by kernel_rfl) (fun _ _ _ h => h) (Or.inl ⟨by rfl, ?_⟩) hHeld ?_
        rotate_left
        · intro w hSw; (try dsimp only at hSw); (try simp only [List.getElem_toArray, List.getElem_cons_succ, List.getElem_cons_zero]); (go_simp; try with_reducible rfl)
        try simp only [List.getElem_toArray, List.getElem_cons_succ, List.getElem_cons_zero, Act.put, List.setIfInBounds_toArray, List.set_cons_zero, List.set_cons_succ]
        refine wpAnyH_done (by kernel_rfl) ?_ _
        clear HBk HSk hc
        have HQ := Lib.hid hHeld.1
        have hk' := HBY.out k
        clear hHeld
        go_wp2
        go_roundw
        case rel => exact ⟨k + 1, by omega, by go_num, HQ.out⟩
        case measure => simp [intOf]; omega
      · have HBk := Lib.hid hb
        have HSk := Lib.hid (H2.out.keep hb)
        clear hb
        go_wp2_with fail
        refine Calls.mono (sum_any _ L _ HSk.out HL.out) ?_
        rintro e w5 ⟨rfl, hb'⟩
        have HB5 := Lib.hid (gbelow hb' HBk.out)
        have HS5 := Lib.hid (HSk.out.keep hb')
        clear hb' HSk HBk
        go_wp2_with fail
        refine Calls.mono (rsum_any _ L _ HS5.out HL.out) ?_
        rintro e w6 ⟨rfl, hb'⟩
        have HB6 := Lib.hid (gbelow hb' HB5.out)
        have HS6 := Lib.hid (HS5.out.keep hb')
        clear hb' HS5 HB5
        go_wp2_with fail
        refine Calls.mono (check_any _ L n _ HS6.out HL.out) ?_
        rintro e w7 ⟨rfl, hb'⟩
        have HB7 := Lib.hid (gbelow hb' HB6.out)
        have HS7 := Lib.hid (HS6.out.keep hb')
        clear hb' HS6 HB6
        go_wp2_with fail
        refine Calls.mono (rcheck_any _ L n _ HS7.out HL.out) ?_
        rintro e w8 ⟨rfl, hb'⟩
        have HB8 := Lib.hid (gbelow hb' HB7.out)
        clear hb' HS7 HB7
        go_wp2
        go_ret
        exact ⟨rfl, gbelow HB8.out H0.out⟩

theorem walk (a : Option Addr) (len cap : Nat) (n : Int) (w : World) (hl : len ≤ cap) (hm : cap ≤ maxLen) (hr : RowsIn [.int .i64, .int .i64, .int .i64, .int .i64, .int .i64, .int .i64, .int .i64, .int .i64, .int .i64, .int .i64, .int .i64, .int .i64, .int .i64, .int .i64, .int .i64, .int .i64, .int .i64, .int .i64, .int .i64, .int .i64, .string, .string, .string, .int .i64, .int .i64, .int .i64] w a len) (w1 : (Lit.int .i64 n).wf = true) :
    Calls Try.prog 5 #[.slice a len cap, .int .i64 n] w fun e w' => e = .returned (.bool true) ∧ Below w.heap.size w w' := by
  obtain ⟨L, rfl, hL, _⟩ := evs_of hl hm hr
  exact walk_ev _ a cap L n w rfl hL

end Go.Proofs.Ytclmhofnliacjaa.tallyTells
