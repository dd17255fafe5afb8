/- The walk of polyphonylaw20.PeerTrims: it returns true, and what was there is as it was. No conditions. -/
import Derived.Test.YtpdckjfkkiameaaPrAwake
import Derived.Test.YtpdckjfkkiameaaPrSame2
import Derived.Test.YtpdckjfkkiameaaPrTrim
import Derived.Test.YtpdckjfkkiameaaRefJoin
namespace Go.Proofs.Ytpdckjfkkiameaa.peerTrims
open Go.RowKit
attribute [local go_sem] bmax2_int bmin2_int bmax_two bmin_two blk_alloc blk_setRow blk_setCell blk_drew blk_drewN alloc_setRow cell_setRow_ne drew_setRow drewN_setRow fold_z0 vv_size vv_get vv_set
attribute [local go_sem ↓] exec_load_vv exec_store_vv exec_index_vv exec_eql_vv exec_neq_vv
attribute [local go_sem] loadVV_at storeVV_at indexVV_at eqVV_eql eqVV_neq ne_r2 ne_l2 ne_r3 ne_l3 ne_r4 ne_l4 ne_r5 ne_l5 ne_r6 ne_l6 ne_r7 ne_l7 ne_r8 ne_l8
set_option linter.unusedVariables false
set_option linter.unusedSimpArgs false
attribute [local go_sem] rowN_drew fold_zE evA_size evA_get0 evA_get1 evA_get2 evA_get19 evA_get20 evA_get21 evA_get22 evA_get23 evA_get24 evA_get25 loadEv_at storeEv_at rowN_ev_new
attribute [local go_sem ↓] exec_load_ev exec_store_ev

theorem gbel {W W' w0 : World} {B : Nat} (h : Below W.heap.size W W') (hb : Below B w0 W) (hB : B ≤ W.heap.size) : Below B w0 W' := hb.trans (h.mono hB)
theorem had_join {v c : Nat → Int} {e : Ev} (h : hadB c e = true) : hadB (joinF v c) e = true := by
  unfold hadB hasB at *
  simp only [Bool.and_eq_true, decide_eq_true_eq] at *
  refine ⟨h.1, Int.le_trans h.2 ?_⟩
  unfold joinF mx
  split <;> omega
theorem for_kept (v c t : Nat → Int) (n : Int) (L : List Ev) : forE (joinF v c) t n (L.filter (keptB c)) = forE (joinF v c) t n L := by
  unfold forE
  rw [List.filter_filter]
  congr 1
  apply List.filter_congr
  intro e _
  by_cases hw : wantB (joinF v c) t e = true
  · rw [hw]
    have : hadB c e = false := by
      cases hh : hadB c e
      · rfl
      · have h2 := had_join (v := v) hh
        unfold wantB at hw
        unfold hadB at h2
        rw [h2] at hw
        simp at hw
    simp [keptB, this]
  · rw [Bool.not_eq_true] at hw
    rw [hw]
    rfl
theorem kept_kept (c : Nat → Int) (L : List Ev) : (L.filter (keptB c)).filter (keptB c) = L.filter (keptB c) := by
  rw [List.filter_filter]
  congr 1
  funext e
  simp
/-- two logs have no block in common. -/
def Apart (ga : Nat) (va : Value) (gb : Nat) (vb : Value) : Prop := ∀ k, LogX ga va k → ¬ LogX gb vb k
theorem Apart.symm {ga : Nat} {va : Value} {gb : Nat} {vb : Value} (h : Apart ga va gb vb) : Apart gb vb ga va := fun k h1 h2 => h k h2 h1
theorem log_lt {t : TypeId} {w : World} {base g : Nat} {v : Value} {L : List Ev} (h : LogT t w base g v L) : ∀ k, LogX g v k → k < w.heap.size := fun k hx => by
  rcases hx with rfl | e
  · exact h.lt
  · exact (h.own.lt k e.symm).2
theorem Apart.grow {ga : Nat} {va va' : Value} {gb : Nat} {vb : Value} {n : Nat} (h : Apart ga va gb vb) (hv : va'.ownBlock = va.ownBlock ∨ ∃ k, va'.ownBlock = some k ∧ n ≤ k) (hb : ∀ k, LogX gb vb k → k < n) : Apart ga va' gb vb := fun k hx hy => by
  rcases hx with rfl | e
  · exact h k (.inl rfl) hy
  · rcases hv with hv | ⟨k', hv, hn⟩
    · exact h k (.inr (by rw [e, hv])) hy
    · rw [hv] at e
      have := hb k hy
      injection e with e
      omega

set_option maxRecDepth 100000 in
set_option maxHeartbeats 4000000 in
theorem walk_ev (x : Value) (ax : Option Addr) (cap : Nat) (L : List Ev) (c v t : Nat → Int) (m : Int) (w : World) (hx : x = .slice ax L.length cap) (h : EvSl w x L) (hm0 : 0 ≤ m) (hm1 : m ≤ 255) :
    Calls Try.prog 7 #[x, .agg (vv c), .agg (vv v), .agg (vv t), .int .u8 m] w fun e w' => e = .returned (.bool true) ∧ Below w.heap.size w w' := by
  subst hx
  have HB : Hid (∀ wr, Below w.heap.size w wr → EvSl wr (.slice ax L.length cap) L) := Lib.hid fun wr hb => h.keep hb
  clear h
  go_enter Try.func7, Try.ntmps7
  go_wp2_with fail
  have k0 := Lib.hid ((((Below.refl w.heap.size w).alloc (Nat.le_refl _) (Obj.cells (vv c) 35)).alloc (by simp) (Obj.cells (vv v) 35)).alloc (by simp; omega) (Obj.cells (vv t) 35))
  have kc := Lib.hid (gblk_alloc (Obj.cells (vv t) 35) (gblk_alloc (Obj.cells (vv v) 35) (gblk_new w (Obj.cells (vv c) 35))))
  have kv := gblk_alloc (Obj.cells (vv t) 35) (gblk_new (w.alloc (Obj.cells (vv c) 35)) (Obj.cells (vv v) 35))
  rw [show (w.alloc (Obj.cells (vv c) 35)).heap.size = w.heap.size + 1 by simp] at kv
  have kt := gblk_new ((w.alloc (Obj.cells (vv c) 35)).alloc (Obj.cells (vv v) 35)) (Obj.cells (vv t) 35)
  rw [show ((w.alloc (Obj.cells (vv c) 35)).alloc (Obj.cells (vv v) 35)).heap.size = w.heap.size + 2 by simp] at kt
  have hlt0 := VBox.lt kt
  have KV := Lib.hid kv
  have KT := Lib.hid kt
  clear kv kt
  generalize ((w.alloc (Obj.cells (vv c) 35)).alloc (Obj.cells (vv v) 35)).alloc (Obj.cells (vv t) 35) = w1 at *
  generalize hg2 : w.heap.size = g2 at *
  refine Calls.mono (awake20_any _) ?_
  rintro e w2 ⟨rfl, hb'⟩
  replace k0 := Lib.hid (gbel hb' k0.out (by omega))
  replace kc := Lib.hid (gblk hb' kc.out)
  replace KV := Lib.hid (gblk hb' KV.out)
  replace KT := Lib.hid (gblk hb' KT.out)
  have hlt1 := Nat.lt_of_lt_of_le hlt0 hb'.size
  clear hb' hlt0
  by_cases hlen : (L.length : Int) > 200
  · go_wp2_with fail
    refine Calls.mono (awake20_any _) ?_
    rintro e w3 ⟨rfl, hb'⟩
    replace k0 := Lib.hid (gbel hb' k0.out (by omega))
    clear hb'
    go_wp2
    go_ret
    exact ⟨rfl, k0.out.mono (Nat.le_of_eq hg2)⟩
  go_wp2_with fail
  refine Calls.mono (pnew_any w2) ?_
  rintro e w3 ⟨rfl, rfl⟩
  have k1 := log_new w2 (g2 + 3) (by omega)
  replace k0 := Lib.hid (k0.out.alloc (by omega) (Obj.cells #[.slice none 0 0] 31))
  replace kc := Lib.hid (gblk_alloc (Obj.cells #[.slice none 0 0] 31) kc.out)
  replace KV := Lib.hid (gblk_alloc (Obj.cells #[.slice none 0 0] 31) KV.out)
  replace KT := Lib.hid (gblk_alloc (Obj.cells #[.slice none 0 0] 31) KT.out)
  generalize w2.alloc (Obj.cells #[.slice none 0 0] 31) = w3 at *
  generalize w2.heap.size = ga at *
  have hga := k1.lt
  go_wp2_with fail
  refine Calls.mono (pnew_any w3) ?_
  rintro e w4 ⟨rfl, rfl⟩
  have k2 := log_new w3 (g2 + 3) (by omega)
  replace k0 := Lib.hid (k0.out.alloc (by omega) (Obj.cells #[.slice none 0 0] 31))
  replace kc := Lib.hid (gblk_alloc (Obj.cells #[.slice none 0 0] 31) kc.out)
  replace KV := Lib.hid (gblk_alloc (Obj.cells #[.slice none 0 0] 31) KV.out)
  replace KT := Lib.hid (gblk_alloc (Obj.cells #[.slice none 0 0] 31) KT.out)
  replace k1 := k1.alloc (Obj.cells #[.slice none 0 0] 31)
  generalize w3.alloc (Obj.cells #[.slice none 0 0] 31) = w4 at *
  generalize w3.heap.size = gb at *
  have hab : ga ≠ gb := by omega
  have KA : Hid (LOG w4 (g2 + 3) ga (.slice none 0 0) (L.take 0)) := Lib.hid k1
  have KB : Hid (LOG w4 (g2 + 3) gb (.slice none 0 0) (L.take 0)) := Lib.hid k2
  have KP : Hid (Apart ga (.slice none 0 0) gb (.slice none 0 0)) := Lib.hid fun k h1 h2 => by
    rcases h1 with rfl | h1
    · rcases h2 with h2 | h2
      · exact hab h2
      · simp [Value.ownBlock] at h2
    · simp [Value.ownBlock] at h1
  clear k1 k2 hga
  go_wp2_with fail
  go_loopw [34] (fun i wr => ∃ (k : Nat) (va vb : Value), k ≤ L.length ∧ i = .int .i64 k ∧ Below g2 w wr ∧ blk wr g2 = some (.cells (vv c) 35) ∧ blk wr (g2 + 1) = some (.cells (vv v) 35) ∧ blk wr (g2 + 2) = some (.cells (vv t) 35) ∧ LOG wr (g2 + 3) ga va (L.take k) ∧ LOG wr (g2 + 3) gb vb (L.take k) ∧ Apart ga va gb vb) (fun i _ => L.length - (intOf i).toNat)
  case atStart => exact ⟨0, _, _, by omega, rfl, k0.out, kc.out, KV.out, KT.out, KA.out, KB.out, KP.out⟩
  case round =>
    obtain ⟨k, va, vb, hk, rfl, q0, qc, qv, qt, qa, qb, qp⟩ := hrel
    have Q0 := Lib.hid q0
    have QC := Lib.hid qc
    have QV := Lib.hid qv
    have QT := Lib.hid qt
    have QA := Lib.hid qa
    have QB := Lib.hid qb
    have QP := Lib.hid qp
    have hsz : g2 + 3 ≤ wr.heap.size := Nat.le_trans qa.base_le (Nat.le_of_lt qa.lt)
    clear q0 qc qv qt qa qb qp
    by_cases hlt : k < L.length
    · obtain ⟨b1, o1, rfl, hbl, hr⟩ := (HB.out wr Q0.out).row hlt
      have hsu := Lib.hid (List.take_succ_eq_append_getElem hlt)
      have hlk : (L.take k).length ≤ 500000000000 := by rw [List.length_take]; omega
      obtain ⟨x, hgx⟩ : ∃ x, L[k] = x := ⟨_, rfl⟩
      rw [hgx] at hr hsu
      go_wp2_with fail
      refine Calls.mono (padd_any (g2 + 3) ga va _ x wr QA.out hlk) ?_
      rintro e w9 ⟨rfl, hF, va', ka, hva⟩
      have hge := LogX.ge QA.out
      replace Q0 := Lib.hid (hF.below (fun k hk => hge k (by omega)) (by omega) Q0.out)
      replace QC := Lib.hid (hF.blk (hge g2 (by omega)) QC.out)
      replace QV := Lib.hid (hF.blk (hge (g2 + 1) (by omega)) QV.out)
      replace QT := Lib.hid (hF.blk (hge (g2 + 2) (by omega)) QT.out)
      have QB0 := QB.out
      replace QB := Lib.hid (QB.out.fr hF (fun k h1 h2 => QP.out k h2 h1))
      replace QP := Lib.hid (QP.out.grow hva (log_lt QB0))
      have QA2 := Lib.hid ka
      have hsz2 : g2 + 3 ≤ w9.heap.size := Nat.le_trans hsz hF.size
      clear hF ka QA hr hge QB0 hva
      obtain ⟨b2, o2, eb, hbl2, hr2⟩ := (HB.out w9 Q0.out).row hlt
      simp only [Option.some.injEq, Addr.mk.injEq, and_true] at eb
      obtain ⟨rfl, rfl⟩ := eb
      rw [hgx] at hr2
      go_wp2_with fail
      refine Calls.mono (padd_any (g2 + 3) gb vb _ x w9 QB.out hlk) ?_
      rintro e w10 ⟨rfl, hF, vb', kb, hvb⟩
      have hge := LogX.ge QB.out
      replace Q0 := Lib.hid (hF.below (fun k hk => hge k (by omega)) (by omega) Q0.out)
      replace QC := Lib.hid (hF.blk (hge g2 (by omega)) QC.out)
      replace QV := Lib.hid (hF.blk (hge (g2 + 1) (by omega)) QV.out)
      replace QT := Lib.hid (hF.blk (hge (g2 + 2) (by omega)) QT.out)
      have QA0 := QA2.out
      replace QA2 := Lib.hid (QA2.out.fr hF (fun k h1 h2 => QP.out k h1 h2))
      replace QP := Lib.hid (QP.out.symm.grow hvb (log_lt QA0)).symm
      replace QB := Lib.hid kb
      rw [← hsu.out] at QA2 QB
      clear hF kb hr2 hge QA0 hvb
      go_wp2
      go_roundw
      case rel => exact ⟨k + 1, va', vb', by omega, by go_num, Q0.out, QC.out, QV.out, QT.out, QA2.out, QB.out, QP.out⟩
      case measure => simp [intOf]; omega
    · have e : k = L.length := by omega
      subst e
      rw [List.take_length] at QA QB
      have qc := QC.out
      go_wp2_with fail
      refine Calls.mono (trim_any (g2 + 3) ga va L c wr QA.out (by omega)) ?_
      rintro e w9 ⟨rfl, hF, va', ka, hva⟩
      have hge := LogX.ge QA.out
      replace Q0 := Lib.hid (hF.below (fun k hk => hge k (by omega)) (by omega) Q0.out)
      replace QC := Lib.hid (hF.blk (hge g2 (by omega)) QC.out)
      replace QV := Lib.hid (hF.blk (hge (g2 + 1) (by omega)) QV.out)
      replace QT := Lib.hid (hF.blk (hge (g2 + 2) (by omega)) QT.out)
      have QB0 := QB.out
      replace QB := Lib.hid (QB.out.fr hF (fun k h1 h2 => QP.out k h2 h1))
      replace QP := Lib.hid (QP.out.grow (.inl hva) (log_lt QB0))
      replace QA := Lib.hid ka
      have hsz2 : g2 + 3 ≤ w9.heap.size := Nat.le_trans hsz hF.size
      have hFl : (L.filter (keptB c)).length ≤ L.length := List.length_filter_le _ _
      clear hF ka hge QB0 hva qc
      have hkk := Lib.hid (kept_kept c L)
      have hfk := Lib.hid (for_kept v c t m L)
      generalize hLF : L.filter (keptB c) = LF at *
      go_wp2_with fail
      refine Calls.mono (plen_any (g2 + 3) ga va' LF w9 QA.out) ?_
      rintro e w10 ⟨rfl, rfl⟩
      go_wp2_with fail
      refine Calls.mono (plen_any (g2 + 3) gb vb L _ QB.out) ?_
      rintro e w11 ⟨rfl, rfl⟩
      have qc := QC.out
      go_wp2_with fail
      refine Calls.mono (trim_any (g2 + 3) ga va' LF c _ QA.out (by omega)) ?_
      rintro e w12 ⟨rfl, hF, va2, ka, hva⟩
      rw [hkk.out] at ka ⊢
      have hge := LogX.ge QA.out
      replace Q0 := Lib.hid (hF.below (fun k hk => hge k (by omega)) (by omega) Q0.out)
      replace QC := Lib.hid (hF.blk (hge g2 (by omega)) QC.out)
      replace QV := Lib.hid (hF.blk (hge (g2 + 1) (by omega)) QV.out)
      replace QT := Lib.hid (hF.blk (hge (g2 + 2) (by omega)) QT.out)
      replace QB := Lib.hid (QB.out.fr hF (fun k h1 h2 => QP.out k h2 h1))
      replace QA := Lib.hid ka
      have hsz3 : g2 + 3 ≤ w12.heap.size := Nat.le_trans hsz2 hF.size
      clear hF ka hge hva QP
      replace qc := QC.out
      have qv := QV.out
      go_wp2_with fail
      refine Calls.mono (rjoin_any v c _) ?_
      rintro e w13 ⟨rfl, hb'⟩
      replace Q0 := Lib.hid (gbel hb' Q0.out (by omega))
      replace QT := Lib.hid (gblk hb' QT.out)
      replace QA := Lib.hid (QA.out.keep hb')
      replace QB := Lib.hid (QB.out.keep hb')
      have hsz4 : g2 + 3 ≤ w13.heap.size := Nat.le_trans hsz3 hb'.size
      clear hb' qc qv QC QV
      have hB := (Below.refl w13.heap.size w13).alloc (Nat.le_refl _) (Obj.cells (vv (joinF v c)) 35)
      have z0' := Lib.hid (gbel hB Q0.out (by omega))
      have zt := gblk hB QT.out
      have zA := QA.out.keep hB
      have zB := QB.out.keep hB
      have zj := gblk_new w13 (Obj.cells (vv (joinF v c)) 35)
      have hsz5 : g2 + 3 ≤ (w13.alloc (Obj.cells (vv (joinF v c)) 35)).heap.size := Nat.le_trans hsz4 hB.size
      clear hB Q0 QT QA QB
      have hwm : IntKind.i64.wrap m = m := by rw [IntKind.wrap_i64]; omega
      go_wp2_with fail
      generalize w13.alloc (Obj.cells (vv (joinF v c)) 35) = w14 at *
      generalize w13.heap.size = gj at *
      generalize joinF v c = J at *
      refine wp_region_held_drew (S := fun w' => (Below g2 w w' ∧ g2 ≤ w'.heap.size) ∧ blk w' (g2 + 2) = some (.cells (vv t) 35) ∧ blk w' gj = some (.cells (vv J) 35) ∧ LOG w' (g2 + 3) ga va2 LF ∧ LOG w' (g2 + 3) gb vb L) (by kernel_rfl) ⟨⟨z0'.out.drew, by show g2 ≤ w14.heap.size; omega⟩, zt, zj, ⟨zA.head, zA.own, zA.base_le⟩, ⟨zB.head, zB.own, zB.base_le⟩⟩ (fun hHeld => ?_)
      refine wpAnyH_take (i := 0) (v := ?_) rfl (by kernel_rfl) (by kernel_rfl) (by kernel_rfl) (fun _ _ _ h => h) (Or.inl ⟨by rfl, ?_⟩) hHeld ?_
      rotate_left
      · intro w hSw; (try dsimp only at hSw); (try simp only [List.getElem_toArray, List.getElem_cons_succ, List.getElem_cons_zero]); (go_simp; try with_reducible rfl)
      try simp only [List.getElem_toArray, List.getElem_cons_succ, List.getElem_cons_zero, Act.put, List.setIfInBounds_toArray, List.set_cons_zero, List.set_cons_succ]
      refine wpAnyH_take (i := 1) (v := ?_) rfl (by kernel_rfl) (by kernel_rfl) (by kernel_rfl) (fun _ _ _ h => h) (Or.inl ⟨by rfl, ?_⟩) hHeld ?_
      rotate_left
      · intro w hSw; (try dsimp only at hSw); (try simp only [List.getElem_toArray, List.getElem_cons_succ, List.getElem_cons_zero]); (go_simp; try with_reducible rfl)
      try simp only [List.getElem_toArray, List.getElem_cons_succ, List.getElem_cons_zero, Act.put, List.setIfInBounds_toArray, List.set_cons_zero, List.set_cons_succ]
      refine wpAnyH_take (i := 2) (v := ?_) rfl (by kernel_rfl) (by kernel_rfl) (by kernel_rfl) (fun _ _ _ h => h) (Or.inl ⟨by rfl, ?_⟩) hHeld ?_
      rotate_left
      · intro w hSw; (try dsimp only at hSw); (try simp only [List.getElem_toArray, List.getElem_cons_succ, List.getElem_cons_zero]); (go_simp; try with_reducible rfl)
      try simp only [List.getElem_toArray, List.getElem_cons_succ, List.getElem_cons_zero, Act.put, List.setIfInBounds_toArray, List.set_cons_zero, List.set_cons_succ]
      refine wpAnyH_take (i := 3) (v := ?_) rfl (by kernel_rfl) (by kernel_rfl) (by kernel_rfl) (fun _ _ _ h => h) (Or.inl ⟨by rfl, ?_⟩) hHeld ?_
      rotate_left
      · intro w hSw; (try dsimp only at hSw); (try simp only [List.getElem_toArray, List.getElem_cons_succ, List.getElem_cons_zero]); (go_simp; try with_reducible rfl)
      try simp only [List.getElem_toArray, List.getElem_cons_succ, List.getElem_cons_zero, Act.put, List.setIfInBounds_toArray, List.set_cons_zero, List.set_cons_succ]
      refine wpAnyH_take (i := 4) (v := ?_) rfl (by kernel_rfl) (by kernel_rfl) (by kernel_rfl) (fun _ _ _ h => h) (Or.inl ⟨by rfl, ?_⟩) hHeld ?_
      rotate_left
      · intro w hSw; (try dsimp only at hSw); (try simp only [List.getElem_toArray, List.getElem_cons_succ, List.getElem_cons_zero]); (go_simp; try with_reducible rfl)
      try simp only [List.getElem_toArray, List.getElem_cons_succ, List.getElem_cons_zero, Act.put, List.setIfInBounds_toArray, List.set_cons_zero, List.set_cons_succ]
      refine wpAnyH_take (i := 6) (v := ?_) rfl (by kernel_rfl) (by kernel_rfl) (by kernel_rfl) (fun _ _ _ h => h) (Or.inl ⟨by rfl, ?_⟩) hHeld ?_
      rotate_left
      · intro w hSw; (try dsimp only at hSw); (try simp only [List.getElem_toArray, List.getElem_cons_succ, List.getElem_cons_zero]); (go_simp; try with_reducible rfl)
      try simp only [List.getElem_toArray, List.getElem_cons_succ, List.getElem_cons_zero, Act.put, List.setIfInBounds_toArray, List.set_cons_zero, List.set_cons_succ]
      refine wpAnyH_take (i := 7) (v := ?_) rfl (by kernel_rfl) (by kernel_rfl) (by kernel_rfl) (fun _ _ _ h => h) (Or.inl ⟨by rfl, ?_⟩) hHeld ?_
      rotate_left
      · intro w hSw; (try dsimp only at hSw); (try simp only [List.getElem_toArray, List.getElem_cons_succ, List.getElem_cons_zero]); (go_simp; try with_reducible rfl)
      try simp only [List.getElem_toArray, List.getElem_cons_succ, List.getElem_cons_zero, Act.put, List.setIfInBounds_toArray, List.set_cons_zero, List.set_cons_succ]
      refine wpAnyH_take (i := 8) (v := ?_) rfl (by kernel_rfl) (by kernel_rfl) (by kernel_rfl) (fun _ _ _ h => h) (Or.inl ⟨by rfl, ?_⟩) hHeld ?_
      rotate_left
      · intro w hSw; (try dsimp only at hSw); (try simp only [List.getElem_toArray, List.getElem_cons_succ, List.getElem_cons_zero]); (go_simp; try with_reducible rfl)
      try simp only [List.getElem_toArray, List.getElem_cons_succ, List.getElem_cons_zero, Act.put, List.setIfInBounds_toArray, List.set_cons_zero, List.set_cons_succ]
      refine wpAnyH_take (i := 9) (v := ?_) rfl (by kernel_rfl) (by kernel_rfl) (by kernel_rfl) (fun _ _ _ h => h) (Or.inl ⟨by rfl, ?_⟩) hHeld ?_
      rotate_left
      · intro w hSw; (try dsimp only at hSw); (try simp only [List.getElem_toArray, List.getElem_cons_succ, List.getElem_cons_zero]); (go_simp; try with_reducible rfl)
      try simp only [List.getElem_toArray, List.getElem_cons_succ, List.getElem_cons_zero, Act.put, List.setIfInBounds_toArray, List.set_cons_zero, List.set_cons_succ]
      refine wpAnyH_take (i := 10) (v := ?_) rfl (by kernel_rfl) (by kernel_rfl) (by kernel_rfl) (fun _ _ _ h => h) (Or.inl ⟨by rfl, ?_⟩) hHeld ?_
      rotate_left
      · intro w hSw; (try dsimp only at hSw); (try simp only [List.getElem_toArray, List.getElem_cons_succ, List.getElem_cons_zero]); (go_simp; try with_reducible rfl)
      try simp only [List.getElem_toArray, List.getElem_cons_succ, List.getElem_cons_zero, Act.put, List.setIfInBounds_toArray, List.set_cons_zero, List.set_cons_succ]
      refine wpAnyH_ready (rs := [5]) (by kernel_rfl) (by simp) ?_
      refine AllReadyH.cons rfl (fun K hK => ?_) AllReadyH.nil
      go_simp
      (refine Calls.mono (for_any (g2 + 3) ga va2 LF J t m _ hHeld.2.2.2.1 (by omega)) ?_; rintro e w' ⟨xo, rfl, hb', ho⟩; have h11 := Lib.hid ho.sl)
      refine hK.out _ _ ⟨⟨gbel hb' hHeld.1.1 hHeld.1.2, Nat.le_trans hHeld.1.2 hb'.size⟩, gblk hb' hHeld.2.1, gblk hb' hHeld.2.2.1, hHeld.2.2.2.1.keep hb', hHeld.2.2.2.2.keep hb'⟩ (fun hNew => ?_)
      clear hK K hHeld hb'
      have hHeld := hNew
      clear hNew
      try simp only [List.getElem_toArray, List.getElem_cons_succ, List.getElem_cons_zero, Act.put, List.setIfInBounds_toArray, List.set_cons_zero, List.set_cons_succ]
      refine wpAnyH_ready (rs := [11]) (by kernel_rfl) (by simp) ?_
      refine AllReadyH.cons rfl (fun K hK => ?_) AllReadyH.nil
      go_simp
      (refine Calls.mono (for_any (g2 + 3) gb vb L J t m _ hHeld.2.2.2.2 (by omega)) ?_; rintro e w' ⟨xa, rfl, hb', hoa⟩; replace h11 := Lib.hid (h11.out.keep hb'); rw [hfk.out] at h11; have h12 := Lib.hid hoa.sl)
      refine hK.out _ _ ⟨⟨gbel hb' hHeld.1.1 hHeld.1.2, Nat.le_trans hHeld.1.2 hb'.size⟩, gblk hb' hHeld.2.1, gblk hb' hHeld.2.2.1, hHeld.2.2.2.1.keep hb', hHeld.2.2.2.2.keep hb'⟩ (fun hNew => ?_)
      clear hK K hHeld hb'
      have hHeld := hNew
      clear hNew
      try simp only [List.getElem_toArray, List.getElem_cons_succ, List.getElem_cons_zero, Act.put, List.setIfInBounds_toArray, List.set_cons_zero, List.set_cons_succ]
      refine wpAnyH_ready (rs := [12]) (by kernel_rfl) (by simp) ?_
      refine AllReadyH.cons rfl (fun K hK => ?_) AllReadyH.nil
      go_simp
      (refine Calls.mono (same_any xo xa _ _ h11.out h12.out) ?_; rintro e w' ⟨rfl, hb'⟩)
      refine hK.out _ _ ⟨⟨gbel hb' hHeld.1.1 hHeld.1.2, Nat.le_trans hHeld.1.2 hb'.size⟩, gblk hb' hHeld.2.1, gblk hb' hHeld.2.2.1, hHeld.2.2.2.1.keep hb', hHeld.2.2.2.2.keep hb'⟩ (fun hNew => ?_)
      clear hK K hHeld hb'
      have hHeld := hNew
      clear hNew
      try simp only [List.getElem_toArray, List.getElem_cons_succ, List.getElem_cons_zero, Act.put, List.setIfInBounds_toArray, List.set_cons_zero, List.set_cons_succ]
      refine wpAnyH_take (i := 13) (v := ?_) rfl (by kernel_rfl) (by kernel_rfl) (by kernel_rfl) (fun _ _ _ h => h) (Or.inl ⟨by rfl, ?_⟩) hHeld ?_
      rotate_left
      · intro w hSw; (try dsimp only at hSw); (try simp only [List.getElem_toArray, List.getElem_cons_succ, List.getElem_cons_zero]); (go_simp; try with_reducible rfl)
      try simp only [List.getElem_toArray, List.getElem_cons_succ, List.getElem_cons_zero, Act.put, List.setIfInBounds_toArray, List.set_cons_zero, List.set_cons_succ]
      refine wpAnyH_done (by kernel_rfl) ?_ _
      have Q := Lib.hid hHeld.1.1
      clear hHeld
      go_wp2
      go_ret
      first
        | exact ⟨rfl, Q.out⟩
        | exact ⟨rfl, Q.out.mono (Nat.le_of_eq hg2)⟩

theorem walk (a : Option Addr) (len cap : Nat) (c1 c2 c3 : List Value) (m : Int) (w : World) (hl : len ≤ cap) (hm : cap ≤ maxLen) (hr : RowsIn [.int .i64, .int .i64, .int .i64, .int .i64, .int .i64, .int .i64, .int .i64, .int .i64, .int .i64, .int .i64, .int .i64, .int .i64, .int .i64, .int .i64, .int .i64, .int .i64, .int .i64, .int .i64, .int .i64, .int .i64, .string, .string, .string, .int .i64, .int .i64, .int .i64] w a len)
    (h1 : LeavesOk [.int .i64, .int .i64, .int .i64, .int .i64, .int .i64, .int .i64, .int .i64, .int .i64, .int .i64, .int .i64, .int .i64, .int .i64, .int .i64, .int .i64, .int .i64, .int .i64] c1) (h2 : LeavesOk [.int .i64, .int .i64, .int .i64, .int .i64, .int .i64, .int .i64, .int .i64, .int .i64, .int .i64, .int .i64, .int .i64, .int .i64, .int .i64, .int .i64, .int .i64, .int .i64] c2) (h3 : LeavesOk [.int .i64, .int .i64, .int .i64, .int .i64, .int .i64, .int .i64, .int .i64, .int .i64, .int .i64, .int .i64, .int .i64, .int .i64, .int .i64, .int .i64, .int .i64, .int .i64] c3) (w3 : (Lit.int .u8 m).wf = true) :
    Calls Try.prog 7 #[.slice a len cap, .agg c1.toArray, .agg c2.toArray, .agg c3.toArray, .int .u8 m] w fun e w' => e = .returned (.bool true) ∧ Below w.heap.size w w' := by
  obtain ⟨L, rfl, hL, _⟩ := evs_of hl hm hr
  obtain ⟨c, ec, _⟩ := vv_of h1
  obtain ⟨v, ev, _⟩ := vv_of h2
  obtain ⟨u, eu, _⟩ := vv_of h3
  have hb := bounds_u8 w3
  rw [ec, ev, eu]
  exact walk_ev _ a cap L c v u m w rfl hL hb.1 hb.2

end Go.Proofs.Ytpdckjfkkiameaa.peerTrims
