/- The contracts of By and of the reference's Of: what each replica's events add. At most 2^22 events. -/
import Derived.Test.YtclmhofnliacjaaTallySum
import Derived.Test.YtclmhofnliacjaaHeldK
namespace Go.Proofs.Ytclmhofnliacjaa
open Go.RowKit
attribute [local go_sem] bmax2_int bmin2_int bmax_two bmin_two blk_alloc blk_setRow blk_setCell blk_drew blk_drewN alloc_setRow cell_setRow_ne drew_setRow drewN_setRow fold_z0 vv_size vv_get vv_set
attribute [local go_sem ↓] exec_load_vv exec_store_vv exec_index_vv exec_eql_vv exec_neq_vv
attribute [local go_sem] loadVV_at storeVV_at indexVV_at eqVV_eql eqVV_neq ne_r2 ne_l2 ne_r3 ne_l3 ne_r4 ne_l4 ne_r5 ne_l5 ne_r6 ne_l6 ne_r7 ne_l7 ne_r8 ne_l8
set_option linter.unusedVariables false
set_option linter.unusedSimpArgs false
attribute [local go_sem] rowN_drew fold_zE evA_size evA_get0 evA_get1 evA_get2 evA_get19 evA_get20 evA_get21 evA_get22 evA_get23 evA_get24 evA_get25 loadEv_at storeEv_at rowN_ev_new
attribute [local go_sem ↓] exec_load_ev exec_store_ev

/-- what replica r's events add. -/
def ofE (L : List Ev) (r : Int) : Int := sumE (L.filter fun e => decide (e.r = r))
def byE (L : List Ev) : Nat → Int := fun i => ofE L i
theorem ofE_append (L M : List Ev) (r : Int) : ofE (L ++ M) r = ofE L r + ofE M r := by unfold ofE; rw [List.filter_append, sumE_append]
theorem ofE_one (e : Ev) (r : Int) : ofE [e] r = if e.r = r then oneE e else 0 := by
  unfold ofE
  by_cases h : e.r = r
  · simp [h, sumE_one]
  · simp [h, sumE_nil]
theorem ofE_succ (L : List Ev) {k : Nat} (h : k < L.length) (r : Int) : ofE (L.take (k + 1)) r = ofE (L.take k) r + if L[k].r = r then oneE L[k] else 0 := by
  rw [take_succ' L h, ofE_append, ofE_one]
theorem ofE_bd (L : List Ev) (r : Int) : -1099511627776 * (L.length : Int) ≤ ofE L r ∧ ofE L r ≤ 1099511627776 * (L.length : Int) := by
  have h := sumE_bd (L.filter fun e => decide (e.r = r))
  have h2 := List.length_filter_le (fun e : Ev => decide (e.r = r)) L
  unfold ofE
  omega
theorem byE_in (L : List Ev) {k : Nat} (h : k < L.length) {R : Nat} (hr : L[k].r = R) : byE (L.take (k + 1)) = up (byE (L.take k)) R (byE (L.take k) R + oneE L[k]) := by
  funext i
  unfold byE up
  rw [ofE_succ L h]
  by_cases e : i = R
  · subst e; simp [hr]
  · have : ¬ L[k].r = (i : Int) := by omega
    rw [if_neg this, if_neg e, Int.add_zero]
theorem byE_out (L : List Ev) {k : Nat} (h : k < L.length) (hr : ¬ (0 ≤ L[k].r ∧ L[k].r < 16)) : ∀ i, i < 16 → byE (L.take (k + 1)) i = byE (L.take k) i := by
  intro i hi
  unfold byE
  rw [ofE_succ L h, if_neg (by omega), Int.add_zero]

set_option maxHeartbeats 2000000 in
theorem by_pos (b o : Nat) (cap : Nat) (L : List Ev) (w : World) (h : ∀ (i : Nat) (h : i < L.length), rowN 26 w b (o + i * 26) = some (evA L[i])) (hL : L.length ≤ 4194304) :
    Calls Try.prog 9 #[.slice (some ⟨b, o, none⟩) L.length cap] w fun x w' => x = .returned (.agg (vv (byE L))) ∧ Below w.heap.size w w' := by
  have HC := Lib.hid h
  clear h
  go_enter Try.func9, Try.ntmps9
  go_wp2
  go_loopw [8] (fun i wr => ∃ k : Nat, k ≤ L.length ∧ i = .int .i64 k ∧ Below w.heap.size w wr ∧ VBox wr w.heap.size z0 ∧ VBox wr (w.heap.size + 1) (byE (L.take k))) (fun i _ => L.length - (intOf i).toNat)
  case atStart =>
    refine ⟨0, by omega, rfl, by go_grown, ?_, ?_⟩
    · unfold VBox; go_simp
    · have : byE (L.take 0) = z0 := by funext i; simp [byE, ofE, sumE, z0]
      rw [this]
      unfold VBox; go_simp
  case round =>
    obtain ⟨k, hk, rfl, hb, k2, k3⟩ := hrel
    by_cases hlt : k < L.length
    · have hrow := rowN_keep hb (HC.out k hlt)
      have HB := Lib.hid hb
      have K2 := Lib.hid k2
      have lt3 := k3.lt
      have HIN := Lib.hid (fun R hr => byE_in L hlt (R := R) hr)
      have HOUT := Lib.hid (byE_out L hlt)
      have hob := oneE_bd L[k]
      have hbd := ofE_bd (L.take k) L[k].r
      rw [List.length_take, Nat.min_eq_left hk] at hbd
      have HBY : Hid (∀ R : Nat, byE (L.take k) R = ofE (L.take k) R) := Lib.hid fun _ => rfl
      clear hb k2
      generalize L[k] = e at *
      generalize byE (L.take k) = B at *
      by_cases hr : 0 ≤ e.r ∧ e.r < 16
      · obtain ⟨hr0, hr1⟩ := hr
        have hR : e.r.toNat < 16 := by omega
        have c26 := k3.cell hR
        have hB := HBY.out e.r.toNat
        rw [Int.toNat_of_nonneg hr0] at hB
        rw [← hB] at hbd
        have f26 := k3.frozen e.r.toNat
        clear hB
        have h1 : -4611686018427387904 ≤ B e.r.toNat := by omega
        have h2 : B e.r.toNat ≤ 4611686018427387904 := by omega
        clear hbd
        have K3 := Lib.hid k3
        clear k3
        go_wp2_with fail
        have d0 : (wr.alloc (Obj.cells (evA e) 33)).cell? ⟨wr.heap.size, 0, none⟩ = some (.int .i64 e.r) := cell_of_row _ _ 0 _ _ _ (gblk_new wr _)
        have r5 := rowN_ev_new wr e 33 wr.heap.size rfl
        replace c26 := gcell ((Below.refl wr.heap.size wr).alloc (Nat.le_refl _) (Obj.cells (evA e) 33)) c26
        replace f26 := gfrozen ((Below.refl wr.heap.size wr).alloc (Nat.le_refl _) (Obj.cells (evA e) 33)) lt3 f26
        replace HB := Lib.hid (HB.out.alloc HB.out.size (Obj.cells (evA e) 33))
        replace K2 := Lib.hid (K2.out.alloc (Obj.cells (evA e) 33))
        replace K3 := Lib.hid (K3.out.alloc (Obj.cells (evA e) 33))
        clear hrow lt3
        generalize wr.alloc (Obj.cells (evA e) 33) = w5 at *
        generalize wr.heap.size = g5 at *
        refine wp_region_heldK (s := 9) (S := fun w' => Below w.heap.size w w' ∧ VBox w' w.heap.size z0 ∧ VBox w' (w.heap.size + 1) B ∧ rowN 26 w' g5 0 = some (evA e) ∧ w'.cell? ⟨g5, 0, none⟩ = some (.int .i64 e.r) ∧ w'.cell? ⟨w.heap.size + 1, e.r.toNat, none⟩ = some (.int .i64 (B e.r.toNat)) ∧ w'.frozen? ⟨w.heap.size + 1, e.r.toNat, none⟩ = false) (by kernel_rfl) ⟨HB.out.drew, K2.out, K3.out, r5, d0, c26, f26⟩ (fun hHeld => ?_)
        refine wpAnyK_take (i := 0) (v := ?_) rfl (by kernel_rfl) (by kernel_rfl) (by kernel_rfl) (by kernel_rfl) (by kernel_rfl) (fun _ _ _ h => h) (Or.inl ⟨by rfl, ?_⟩) hHeld ?_
        rotate_left
        · intro w hSw; (try dsimp only at hSw); (try simp only [List.getElem_toArray, List.getElem_cons_succ, List.getElem_cons_zero]); (go_simp; try with_reducible rfl)
        try simp only [List.getElem_toArray, List.getElem_cons_succ, List.getElem_cons_zero, Act.put, List.setIfInBounds_toArray, List.set_cons_zero, List.set_cons_succ]
        refine wpAnyK_take (i := 1) (v := ?_) rfl (by kernel_rfl) (by kernel_rfl) (by kernel_rfl) (by kernel_rfl) (by kernel_rfl) (fun _ _ _ h => h) (Or.inl ⟨by rfl, ?_⟩) hHeld ?_
        rotate_left
        · intro w hSw; (try dsimp only at hSw); (try simp only [List.getElem_toArray, List.getElem_cons_succ, List.getElem_cons_zero]); (go_simp; try with_reducible rfl)
        try simp only [List.getElem_toArray, List.getElem_cons_succ, List.getElem_cons_zero, Act.put, List.setIfInBounds_toArray, List.set_cons_zero, List.set_cons_succ]
        refine wpAnyK_take (i := 2) (v := ?_) rfl (by kernel_rfl) (by kernel_rfl) (by kernel_rfl) (by kernel_rfl) (by kernel_rfl) (fun _ _ _ h => h) (Or.inl ⟨by rfl, ?_⟩) hHeld ?_
        rotate_left
        · intro w hSw; (try dsimp only at hSw); (try simp only [List.getElem_toArray, List.getElem_cons_succ, List.getElem_cons_zero]); (go_simp; try with_reducible rfl)
        try simp only [List.getElem_toArray, List.getElem_cons_succ, List.getElem_cons_zero, Act.put, List.setIfInBounds_toArray, List.set_cons_zero, List.set_cons_succ]
        refine wpAnyK_take (i := 3) (v := ?_) rfl (by kernel_rfl) (by kernel_rfl) (by kernel_rfl) (by kernel_rfl) (by kernel_rfl) (fun _ _ _ h => h) (Or.inl ⟨by rfl, ?_⟩) hHeld ?_
        rotate_left
        · intro w hSw; (try dsimp only at hSw); (try simp only [List.getElem_toArray, List.getElem_cons_succ, List.getElem_cons_zero]); (go_simp; try with_reducible rfl)
        try simp only [List.getElem_toArray, List.getElem_cons_succ, List.getElem_cons_zero, Act.put, List.setIfInBounds_toArray, List.set_cons_zero, List.set_cons_succ]
        refine wpAnyK_take (i := 4) (v := ?_) rfl (by kernel_rfl) (by kernel_rfl) (by kernel_rfl) (by kernel_rfl) (by kernel_rfl) (fun _ _ _ h => h) (Or.inl ⟨by rfl, ?_⟩) hHeld ?_
        rotate_left
        · intro w hSw; (try dsimp only at hSw); (try simp only [List.getElem_toArray, List.getElem_cons_succ, List.getElem_cons_zero]); (go_simp; try with_reducible rfl)
        try simp only [List.getElem_toArray, List.getElem_cons_succ, List.getElem_cons_zero, Act.put, List.setIfInBounds_toArray, List.set_cons_zero, List.set_cons_succ]
        refine wpAnyK_take (i := 5) (v := ?_) rfl (by kernel_rfl) (by kernel_rfl) (by kernel_rfl) (by kernel_rfl) (by kernel_rfl) (fun _ _ _ h => h) (Or.inl ⟨by rfl, ?_⟩) hHeld ?_
        rotate_left
        · intro w hSw; (try dsimp only at hSw); (try simp only [List.getElem_toArray, List.getElem_cons_succ, List.getElem_cons_zero]); (go_simp; try with_reducible rfl)
        try simp only [List.getElem_toArray, List.getElem_cons_succ, List.getElem_cons_zero, Act.put, List.setIfInBounds_toArray, List.set_cons_zero, List.set_cons_succ]
        refine wpAnyK_one (i := 6) (by kernel_rfl) rfl (fun K hK => ?_)
        (try simp only [List.getElem_toArray, List.getElem_cons_succ, List.getElem_cons_zero])
        go_simp
        (refine Calls.mono (one_any e _) ?_; rintro x w6 ⟨rfl, hb'⟩)
        have hNew := (show _ ∧ _ ∧ _ ∧ _ ∧ _ ∧ _ ∧ _ from ⟨gbelow hb' hHeld.1, hHeld.2.1.keep hb', hHeld.2.2.1.keep hb', rowN_keep hb' hHeld.2.2.2.1, gcell hb' hHeld.2.2.2.2.1, gcell hb' hHeld.2.2.2.2.2.1, gfrozen hb' hHeld.2.2.1.lt hHeld.2.2.2.2.2.2⟩)
        refine hK.out _ _ (Or.inr hNew) ?_
        clear hK K hHeld hb'
        have hHeld := hNew
        clear hNew
        try simp only [List.getElem_toArray, List.getElem_cons_succ, List.getElem_cons_zero, Act.put, List.setIfInBounds_toArray, List.set_cons_zero, List.set_cons_succ]
        refine wpAnyK_take (i := 7) (v := ?_) rfl (by kernel_rfl) (by kernel_rfl) (by kernel_rfl) (by kernel_rfl) (by kernel_rfl) (fun _ _ _ h => h) (Or.inl ⟨by rfl, ?_⟩) hHeld ?_
        rotate_left
        · intro w hSw; (try dsimp only at hSw); (try simp only [List.getElem_toArray, List.getElem_cons_succ, List.getElem_cons_zero]); (go_simp; try with_reducible rfl)
        try simp only [List.getElem_toArray, List.getElem_cons_succ, List.getElem_cons_zero, Act.put, List.setIfInBounds_toArray, List.set_cons_zero, List.set_cons_succ]
        refine wpAnyK_take (i := 8) (v := ?_) rfl (by kernel_rfl) (by kernel_rfl) (by kernel_rfl) (by kernel_rfl) (by kernel_rfl) (fun _ _ _ h => h) (Or.inl ⟨by rfl, ?_⟩) hHeld ?_
        rotate_left
        · intro w hSw; (try dsimp only at hSw); (try simp only [List.getElem_toArray, List.getElem_cons_succ, List.getElem_cons_zero]); (go_simp; try with_reducible rfl)
        try simp only [List.getElem_toArray, List.getElem_cons_succ, List.getElem_cons_zero, Act.put, List.setIfInBounds_toArray, List.set_cons_zero, List.set_cons_succ]
        obtain ⟨kb, kz, kB, _, _, _, kf⟩ := id hHeld
        refine wpAnyK_one (i := 9) (by kernel_rfl) rfl (fun K hK => ?_)
        (try simp only [List.getElem_toArray, List.getElem_cons_succ, List.getElem_cons_zero])
        go_simp
        refine hK.out _ _ (Or.inl (by kernel_rfl)) ?_
        clear hK K
        try simp only [List.getElem_toArray, List.getElem_cons_succ, List.getElem_cons_zero, Act.put, List.setIfInBounds_toArray, List.set_cons_zero, List.set_cons_succ]
        refine wpAnyK_done (by kernel_rfl) ?_ _
        rw [IntWalk.i64_in _ (by omega)]
        have hx := HIN.out e.r.toNat (by omega)
        have KX := Lib.hid (kB.set hR (B e.r.toNat + oneE e))
        rw [← hx] at KX
        have KB := Lib.hid (kb.setCell (p := ⟨w.heap.size + 1, e.r.toNat, none⟩) (by simp) (.int .i64 (B e.r.toNat + oneE e)))
        have KZ := Lib.hid (kz.far (p := ⟨w.heap.size + 1, e.r.toNat, none⟩) (by simp) (.int .i64 (B e.r.toNat + oneE e)))
        clear hx kb kz kB kf hHeld
        go_wp2
        go_roundw
        case rel => exact ⟨k + 1, by omega, by go_num, KB.out, KZ.out, KX.out⟩
        case measure => simp [intOf]; omega
      · have HR := Lib.hid hr
        by_cases h0 : e.r < 0
        · clear hr hbd lt3
          go_wp2
          go_roundw
          case rel =>
            exact ⟨k + 1, by omega, by go_num, HB.out.alloc HB.out.size _, K2.out.alloc _, ((k3.alloc _).ext (fun i hi => (HOUT.out HR.out i hi).symm))⟩
          case measure => simp [intOf]; omega
        · have h1 : 16 ≤ e.r := by omega
          clear hr hbd lt3
          go_wp2
          go_roundw
          case rel =>
            exact ⟨k + 1, by omega, by go_num, HB.out.alloc HB.out.size _, K2.out.alloc _, ((k3.alloc _).ext (fun i hi => (HOUT.out HR.out i hi).symm))⟩
          case measure => simp [intOf]; omega
    · have e : k = L.length := by omega
      rw [e, List.take_length] at k3
      have HB := Lib.hid hb
      clear hb e
      unfold VBox at k2 k3
      go_wp2
      refine bodyPost_ret (v := .agg (vv (byE L))) ?_ rfl ⟨rfl, ?_⟩
      · exact results_cell_row Try.results9 _ _ w.heap.size _ _ _ _ rfl (setRow_heap _ _ _ _ _ _ k2) Try.underlying25 rfl infoVV
      · exact HB.out.trans ⟨rfl, rfl, rfl, by simp, fun j hj => setRow_other _ _ _ _ (by omega)⟩

set_option maxHeartbeats 1000000 in
theorem by_any (v : Value) (L : List Ev) (w : World) (h : EvSl w v L) (hL : L.length ≤ 4194304) :
    Calls Try.prog 9 #[v] w fun x w' => x = .returned (.agg (vv (byE L))) ∧ Below w.heap.size w w' := by
  obtain ⟨a, cap, rfl, hc, hm, rfl | ⟨b, o, rfl, hrow⟩⟩ := h
  · have hz : byE [] = z0 := by funext i; simp [byE, ofE, sumE, z0]
    have HZ := Lib.hid hz
    clear hz
    go_enter Try.func9, Try.ntmps9
    go_wp2
    refine wp_loop_rounds 1 ?_
    rw [rounds_succ]
    go_wp2
    refine bodyPost_ret (v := .agg (vv z0)) ?_ rfl ⟨by rw [HZ.out], ?_⟩
    · exact results_cell_row Try.results9 _ _ w.heap.size _ _ _ _ rfl (setRow_heap _ _ _ _ _ _ (show blk _ _ = _ from gblk_alloc _ (gblk_new w _))) Try.underlying25 rfl infoVV
    · exact (((Below.refl _ _).alloc (Nat.le_refl _) _).alloc (by simp) _).trans ⟨rfl, rfl, rfl, by simp, fun j hj => setRow_other _ _ _ _ (by omega)⟩
  · exact by_pos b o cap L w hrow hL

set_option maxHeartbeats 1000000 in
theorem of_pos (b o : Nat) (cap : Nat) (L : List Ev) (r : Int) (w : World) (h : ∀ (i : Nat) (h : i < L.length), rowN 26 w b (o + i * 26) = some (evA L[i])) (hL : L.length ≤ 4194304) :
    Calls Try.prog 11 #[.slice (some ⟨b, o, none⟩) L.length cap, .int .i64 r] w fun x w' => x = .returned (.int .i64 (ofE L r)) ∧ Below w.heap.size w w' := by
  have HC := Lib.hid h
  clear h
  go_enter Try.func11, Try.ntmps11
  go_wp2
  go_loopw [5, 9] (fun n i wr => ∃ k : Nat, k ≤ L.length ∧ i = .int .i64 k ∧ n = .int .i64 (ofE (L.take k) r) ∧ Below w.heap.size w wr) (fun _ i _ => L.length - (intOf i).toNat)
  case atStart => exact ⟨0, by omega, rfl, rfl, Below.refl _ _⟩
  case round =>
    obtain ⟨k, hk, rfl, rfl, hb⟩ := hrel
    by_cases hlt : k < L.length
    · have hrow := rowN_keep hb (HC.out k hlt)
      have hc := (rowN_cells hrow).2 0 (by omega)
      rw [evA_get0, Nat.add_zero] at hc
      have HB := Lib.hid hb
      have HS := Lib.hid (ofE_succ L hlt r)
      have hbd := ofE_bd (L.take k) r
      rw [List.length_take, Nat.min_eq_left hk] at hbd
      have hob := oneE_bd L[k]
      clear hb
      generalize L[k] = e at *
      generalize ofE (L.take k) r = s at *
      have h1 : -4611686018427387904 ≤ s := by omega
      have h2 : s ≤ 4611686018427387904 := by omega
      clear hbd
      by_cases hr : e.r = r
      · have hq : (e.r == r) = true := by simp [hr]
        have HR := Lib.hid hr
        clear hr
        go_wp2_with fail
        refine Calls.mono (rone_any e _) ?_
        rintro x w1 ⟨rfl, hb'⟩
        go_wp2
        go_roundw
        case rel => exact ⟨k + 1, by omega, by go_num, by rw [HS.out, if_pos HR.out], gbelow hb' HB.out⟩
        case measure => simp [intOf]; omega
      · have hq : (e.r == r) = false := by simp [hr]
        have HR := Lib.hid hr
        clear hr
        go_wp2
        go_roundw
        case rel => exact ⟨k + 1, by omega, by go_num, by rw [HS.out, if_neg HR.out, Int.add_zero], HB.out⟩
        case measure => simp [intOf]; omega
    · have e : k = L.length := by omega
      have E : Hid (L.take k = L) := Lib.hid (by rw [e, List.take_length])
      have HB := Lib.hid hb
      clear hb e
      go_wp2
      go_ret
      exact ⟨by rw [E.out]; rfl, HB.out⟩

theorem of_any (v : Value) (L : List Ev) (r : Int) (w : World) (h : EvSl w v L) (hL : L.length ≤ 4194304) :
    Calls Try.prog 11 #[v, .int .i64 r] w fun x w' => x = .returned (.int .i64 (ofE L r)) ∧ Below w.heap.size w w' := by
  obtain ⟨a, cap, rfl, hc, hm, rfl | ⟨b, o, rfl, hrow⟩⟩ := h
  · go_enter Try.func11, Try.ntmps11
    go_wp2
    refine wp_loop_rounds 1 ?_
    rw [rounds_succ]
    go_wp2
    go_ret
    exact ⟨rfl, Below.refl _ _⟩
  · exact of_pos b o cap L r w hrow hL

end Go.Proofs.Ytclmhofnliacjaa
