/- The walk of polyphonylaw20.PeerPlays: it returns true, and what was there is as it was. No conditions. -/
import Derived.Test.YtpdckjfkkiameaaPrAwake
import Derived.Test.YtpdckjfkkiameaaPrSame2
import Derived.Test.YtpdckjfkkiameaaPrOp
import Derived.Test.YtpdckjfkkiameaaPrTrim
import Derived.Test.YtpdckjfkkiameaaPrRefFor
import Derived.Test.YtpdckjfkkiameaaHeldC
namespace Go.Proofs.Ytpdckjfkkiameaa.peerPlays
open Go.RowKit
attribute [local go_sem] bmax2_int bmin2_int bmax_two bmin_two blk_alloc blk_setRow blk_setCell blk_drew blk_drewN alloc_setRow cell_setRow_ne drew_setRow drewN_setRow fold_z0 vv_size vv_get vv_set
attribute [local go_sem ↓] exec_load_vv exec_store_vv exec_index_vv exec_eql_vv exec_neq_vv
attribute [local go_sem] loadVV_at storeVV_at indexVV_at eqVV_eql eqVV_neq ne_r2 ne_l2 ne_r3 ne_l3 ne_r4 ne_l4 ne_r5 ne_l5 ne_r6 ne_l6 ne_r7 ne_l7 ne_r8 ne_l8
set_option linter.unusedVariables false
set_option linter.unusedSimpArgs false
attribute [local go_sem] rowN_drew fold_zE evA_size evA_get0 evA_get1 evA_get2 evA_get19 evA_get20 evA_get21 evA_get22 evA_get23 evA_get24 evA_get25 loadEv_at storeEv_at rowN_ev_new
attribute [local go_sem ↓] exec_load_ev exec_store_ev
attribute [local go_sem] fold_ev1 loadVV_27 loadVV_43 loadOP_at storeOP_at opP_get0 opP_n opP_size
attribute [local go_sem ↓] exec_load_op exec_store_op

theorem gbel {W W' w0 : World} {B : Nat} (h : Below W.heap.size W W') (hb : Below B w0 W) (hB : B ≤ W.heap.size) : Below B w0 W' := hb.trans (h.mono hB)
/-- two logs have no block in common. -/
def Apart (ga : Nat) (va : Value) (gb : Nat) (vb : Value) : Prop := ∀ k, LogX ga va k → ¬ LogX gb vb k
theorem Apart.symm {ga : Nat} {va : Value} {gb : Nat} {vb : Value} (h : Apart ga va gb vb) : Apart gb vb ga va := fun k h1 h2 => h k h2 h1
theorem log_lt {t : TypeId} {w : World} {base g : Nat} {v : Value} {L : List Ev} (h : LogT t w base g v L) : ∀ k, LogX g v k → k < w.heap.size := fun k hx => by
  rcases hx with rfl | e
  · exact h.lt
  · exact (h.own.lt k e.symm).2
theorem Apart.grow {ga : Nat} {va va' : Value} {gb : Nat} {vb : Value} {n : Nat} (h : Apart ga va gb vb) (hv : va'.ownBlock = va.ownBlock ∨ ∃ k, va'.ownBlock = some k ∧ n ≤ k) (hb : ∀ k, LogX gb vb k → k < n) : Apart ga va' gb vb := fun k hx hy => by
  rcases hx with rfl | e
  · exact h k (.inl rfl) hy
  · rcases hv with hv | ⟨k', hv, hn⟩
    · exact h k (.inr (by rw [e, hv])) hy
    · rw [hv] at e
      have := hb k hy
      injection e with e
      omega

set_option maxRecDepth 100000 in
set_option maxHeartbeats 8000000 in
theorem walk_op (a : Option Addr) (cap : Nat) (S : List OpC) (z : Bool) (w : World) (hL : S = [] ∨ ∃ b o, a = some ⟨b, o, none⟩ ∧ b < w.heap.size ∧ OpsAt w b o S) :
    Calls Try.prog 3 #[.slice a S.length cap, .bool z] w fun e w' => e = .returned (.bool true) ∧ Below w.heap.size w w' := by
  have HL := Lib.hid hL
  clear hL
  go_enter Try.func3, Try.ntmps3
  go_wp2_with fail
  refine Calls.mono (awake20_any _) ?_
  rintro e w2 ⟨rfl, hb'⟩
  have k0 := Lib.hid hb'
  have hgs2 := hb'.size
  clear hb'
  by_cases hlen : (S.length : Int) > 200
  · go_wp2_with fail
    refine Calls.mono (awake20_any _) ?_
    rintro e w3 ⟨rfl, hb'⟩
    replace k0 := Lib.hid (gbelow hb' k0.out)
    clear hb'
    go_wp2
    go_ret
    exact ⟨rfl, k0.out⟩
  generalize hgw : w.heap.size = gw at *
  go_wp2_with fail
  refine Calls.mono (pnew_any w2) ?_
  rintro e w3 ⟨rfl, rfl⟩
  cases z
  · have k1 := log_new w2 gw hgs2
    have k2 : RLOG ((w2.alloc (Obj.cells #[.slice none 0 0] 31)).alloc (Obj.cells #[.slice none 0 0] 29)) gw (w2.heap.size + 1) (.slice none 0 0) [] := ⟨by
      have := gblk_new (w2.alloc (Obj.cells #[.slice none 0 0] 31)) (Obj.cells #[.slice none 0 0] 29)
      rw [show (w2.alloc (Obj.cells #[.slice none 0 0] 31)).heap.size = w2.heap.size + 1 by simp] at this
      exact this, OwnEv.nil _ _, by omega⟩
    have kb0 : Below gw w ((w2.alloc (Obj.cells #[.slice none 0 0] 31)).alloc (Obj.cells #[.slice none 0 0] 29)) := (k0.out.alloc hgs2 (Obj.cells #[.slice none 0 0] 31)).alloc (by simp; omega) (Obj.cells #[.slice none 0 0] 29)
    have hs5 : ((w2.alloc (Obj.cells #[.slice none 0 0] 31)).alloc (Obj.cells #[.slice none 0 0] 29)).heap.size = w2.heap.size + 2 := by simp
    have KA : Hid (LOG ((w2.alloc (Obj.cells #[.slice none 0 0] 31)).alloc (Obj.cells #[.slice none 0 0] 29)) gw w2.heap.size (.slice none 0 0) []) := Lib.hid (k1.alloc (Obj.cells #[.slice none 0 0] 29))
    have KB := Lib.hid k2
    have K0 := Lib.hid kb0
    have hgs : gw ≤ ((w2.alloc (Obj.cells #[.slice none 0 0] 31)).alloc (Obj.cells #[.slice none 0 0] 29)).heap.size := by omega
    have hgg : w2.heap.size ≠ w2.heap.size + 1 := by omega
    clear k1 k2 kb0 hs5
    go_wp2_with fail
    generalize ((w2.alloc (Obj.cells #[.slice none 0 0] 31)).alloc (Obj.cells #[.slice none 0 0] 29)) = w5 at *
    obtain ⟨gr, hgr⟩ : ∃ gr, gr = w2.heap.size + 1 := ⟨_, rfl⟩
    rw [← hgr] at KB hgg ⊢
    clear hgr
    generalize w2.heap.size = gp at *
    have KP : Hid (Apart gp (.slice none 0 0) gr (.slice none 0 0)) := Lib.hid fun k h1 h2 => by
      rcases h1 with rfl | h1
      · rcases h2 with h2 | h2
        · exact hgg h2
        · simp [Value.ownBlock] at h2
      · simp [Value.ownBlock] at h1
    clear hgg

    go_loopw [27] (fun i wr => ∃ (k : Nat) (Lc : List Ev) (vp vr : Value), k ≤ S.length ∧ i = .int .i64 k ∧ Lc.length ≤ k ∧ (Below gw w wr ∧ gw ≤ wr.heap.size) ∧ LOG wr gw gp vp Lc ∧ RLOG wr gw gr vr Lc ∧ Apart gp vp gr vr) (fun i _ => S.length - (intOf i).toNat)
    case atStart => exact ⟨0, [], _, _, by omega, rfl, by simp, ⟨K0.out, hgs⟩, KA.out, KB.out, KP.out⟩
    case round =>
      obtain ⟨k, Lc, vp, vr, hk, rfl, hLk, q0, qa, qb, qp⟩ := hrel
      have Q0 := Lib.hid q0
      have QA := Lib.hid qa
      have QB := Lib.hid qb
      have QP := Lib.hid qp
      clear q0 qa qb qp
      by_cases hlt : k < S.length
      · rcases HL.out with h0 | ⟨b, o, rfl, hbw, hrows⟩
        · rw [h0] at hlt; simp at hlt
        have hr := (hrows.keep (Q0.out.1.mono (Nat.le_of_eq hgw))) k hlt
        clear hrows
        generalize S[k].k = kk at *
        generalize S[k].e = e at *
        generalize S[k].v = v at *
        generalize S[k].u = u at *
        generalize S[k].n = n at *
        by_cases hk1 : kk = 1
        · subst hk1
          have hB := (Below.refl wr.heap.size wr).alloc (Nat.le_refl _) (Obj.cells (opP 1 e v u n) 41)
          have F0 : Hid (Below gw w (wr.alloc (Obj.cells (opP 1 e v u n) 41)) ∧ gw ≤ (wr.alloc (Obj.cells (opP 1 e v u n) 41)).heap.size) := Lib.hid ⟨gbel hB Q0.out.1 Q0.out.2, Nat.le_trans Q0.out.2 hB.size⟩
          have FA := Lib.hid (QA.out.keep hB)
          have FB := Lib.hid (QB.out.keep hB)
          have FP := QP
          have o8 := opAt_blk (gblk_new wr (Obj.cells (opP 1 e v u n) 41))
          have h8 : ∀ k, LogX gp vp k → ¬ k = wr.heap.size := fun k hx e => by have := log_lt QA.out k hx; omega
          have h9 : ∀ k, LogX gr vr k → ¬ k = wr.heap.size := fun k hx e => by have := log_lt QB.out k hx; omega
          have s1 := o8.ev
          rw [Nat.zero_add] at s1
          have s2 := o8.v
          rw [Nat.zero_add] at s2
          have s3 := o8.u
          rw [Nat.zero_add] at s3
          have s4 := o8.n
          rw [Nat.zero_add] at s4
          have hlo := blk_lt (gblk_new wr (Obj.cells (opP 1 e v u n) 41))
          clear hB Q0 QA QB QP o8
          go_wp2_with fail
          clear hr
          generalize wr.alloc (Obj.cells (opP 1 e v u n) 41) = w6 at *
          generalize wr.heap.size = g8 at *
          clear s2 s3 s4
          refine Calls.mono (padd_any gw gp vp Lc e w6 FA.out (by omega)) ?_
          rintro e9 w7 ⟨rfl, hF, vp', ka, hva⟩
          have hge := LogX.ge FA.out
          replace F0 : Hid (Below gw w w7 ∧ gw ≤ w7.heap.size) := Lib.hid ⟨hF.below (fun k hk => hge k hk) F0.out.2 F0.out.1, Nat.le_trans F0.out.2 hF.size⟩
          have FB0 := FB.out
          replace FB := Lib.hid (FB.out.fr hF (fun k h1 h2 => FP.out k h2 h1))
          replace FP := Lib.hid (FP.out.grow hva (log_lt FB0))
          replace FA := Lib.hid ka
          have s5 := hF.rowN (fun hx => h8 g8 hx rfl) s1
          have hlo2 := Nat.lt_of_lt_of_le hlo hF.size
          clear hF ka hge FB0 hva s1 hlo
          go_wp2_with fail
          refine wp_region_heldK (s := 11) (S := fun w' => blk w' gr = some (.cells #[vr] 29) ∧ w'.cell? ⟨gr, 0, none⟩ = some vr ∧ rowN 26 w' g8 1 = some (evA e)) (by kernel_rfl) ⟨FB.out.head, FB.out.cell, s5⟩ (fun hHeld => ?_)
          refine wpAnyC_take (i := 0) (v := ?_) rfl (by kernel_rfl) (by kernel_rfl) (by kernel_rfl) (by kernel_rfl) (by kernel_rfl) (by kernel_rfl) (fun _ _ _ h => h) (Or.inl ⟨by rfl, ?_⟩) hHeld ?_
          rotate_left
          · intro w hSw; (try dsimp only at hSw); (try simp only [List.getElem_toArray, List.getElem_cons_succ, List.getElem_cons_zero]); (go_simp; try with_reducible rfl)
          try simp only [List.getElem_toArray, List.getElem_cons_succ, List.getElem_cons_zero, Act.put, List.setIfInBounds_toArray, List.set_cons_zero, List.set_cons_succ]
          refine wpAnyC_take (i := 1) (v := ?_) rfl (by kernel_rfl) (by kernel_rfl) (by kernel_rfl) (by kernel_rfl) (by kernel_rfl) (by kernel_rfl) (fun _ _ _ h => h) (Or.inl ⟨by rfl, ?_⟩) hHeld ?_
          rotate_left
          · intro w hSw; (try dsimp only at hSw); (try simp only [List.getElem_toArray, List.getElem_cons_succ, List.getElem_cons_zero]); (go_simp; try with_reducible rfl)
          try simp only [List.getElem_toArray, List.getElem_cons_succ, List.getElem_cons_zero, Act.put, List.setIfInBounds_toArray, List.set_cons_zero, List.set_cons_succ]
          refine wpAnyC_take (i := 2) (v := ?_) rfl (by kernel_rfl) (by kernel_rfl) (by kernel_rfl) (by kernel_rfl) (by kernel_rfl) (by kernel_rfl) (fun _ _ _ h => h) (Or.inl ⟨by rfl, ?_⟩) hHeld ?_
          rotate_left
          · intro w hSw; (try dsimp only at hSw); (try simp only [List.getElem_toArray, List.getElem_cons_succ, List.getElem_cons_zero]); (go_simp; try with_reducible rfl)
          try simp only [List.getElem_toArray, List.getElem_cons_succ, List.getElem_cons_zero, Act.put, List.setIfInBounds_toArray, List.set_cons_zero, List.set_cons_succ]
          refine wpAnyC_take (i := 3) (v := ?_) rfl (by kernel_rfl) (by kernel_rfl) (by kernel_rfl) (by kernel_rfl) (by kernel_rfl) (by kernel_rfl) (fun _ _ _ h => h) (Or.inl ⟨by rfl, ?_⟩) hHeld ?_
          rotate_left
          · intro w hSw; (try dsimp only at hSw); (try simp only [List.getElem_toArray, List.getElem_cons_succ, List.getElem_cons_zero]); (go_simp; try with_reducible rfl)
          try simp only [List.getElem_toArray, List.getElem_cons_succ, List.getElem_cons_zero, Act.put, List.setIfInBounds_toArray, List.set_cons_zero, List.set_cons_succ]
          refine wpAnyC_take (i := 4) (v := ?_) rfl (by kernel_rfl) (by kernel_rfl) (by kernel_rfl) (by kernel_rfl) (by kernel_rfl) (by kernel_rfl) (fun _ _ _ h => h) (Or.inl ⟨by rfl, ?_⟩) hHeld ?_
          rotate_left
          · intro w hSw; (try dsimp only at hSw); (try simp only [List.getElem_toArray, List.getElem_cons_succ, List.getElem_cons_zero]); (go_simp; try with_reducible rfl)
          try simp only [List.getElem_toArray, List.getElem_cons_succ, List.getElem_cons_zero, Act.put, List.setIfInBounds_toArray, List.set_cons_zero, List.set_cons_succ]
          refine wpAnyC_take (i := 5) (v := ?_) rfl (by kernel_rfl) (by kernel_rfl) (by kernel_rfl) (by kernel_rfl) (by kernel_rfl) (by kernel_rfl) (fun _ _ _ h => h) (Or.inl ⟨by rfl, ?_⟩) hHeld ?_
          rotate_left
          · intro w hSw; (try dsimp only at hSw); (try simp only [List.getElem_toArray, List.getElem_cons_succ, List.getElem_cons_zero]); (go_simp; try with_reducible rfl)
          try simp only [List.getElem_toArray, List.getElem_cons_succ, List.getElem_cons_zero, Act.put, List.setIfInBounds_toArray, List.set_cons_zero, List.set_cons_succ]
          refine wpAnyC_take (i := 6) (v := ?_) rfl (by kernel_rfl) (by kernel_rfl) (by kernel_rfl) (by kernel_rfl) (by kernel_rfl) (by kernel_rfl) (fun _ _ _ h => h) (Or.inl ⟨by rfl, ?_⟩) hHeld ?_
          rotate_left
          · intro w hSw; (try dsimp only at hSw); (try simp only [List.getElem_toArray, List.getElem_cons_succ, List.getElem_cons_zero]); (go_simp; try with_reducible rfl)
          try simp only [List.getElem_toArray, List.getElem_cons_succ, List.getElem_cons_zero, Act.put, List.setIfInBounds_toArray, List.set_cons_zero, List.set_cons_succ]
          have G0 : Hid (Below gw w w7.drew ∧ gw ≤ w7.drew.heap.size) := Lib.hid ⟨F0.out.1.drew, F0.out.2⟩
          have GA : Hid (LOG w7.drew gw gp vp' (Lc ++ [e])) := Lib.hid ⟨FA.out.head, FA.out.own, FA.out.base_le⟩
          have GB : Hid (RLOG w7.drew gw gr vr Lc) := Lib.hid ⟨FB.out.head, FB.out.own, FB.out.base_le⟩
          have hlo3 : g8 < w7.drew.heap.size := hlo2
          clear F0 FA FB s5 hlo2
          generalize w7.drew = wz at hHeld G0 GA GB hlo3 ⊢
          refine wpAnyK_one (i := 7) (by kernel_rfl) rfl (fun K hK => ?_)
          (try simp only [List.getElem_toArray, List.getElem_cons_succ, List.getElem_cons_zero])
          go_simp
          have hB := (Below.refl wz.heap.size wz).alloc (Nat.le_refl _) (Obj.cells (evA e) 39)
          have hNew := And.intro (gblk hB hHeld.1) (And.intro (gcell hB hHeld.2.1) (rowN_keep hB hHeld.2.2))
          refine hK.out _ _ (Or.inr hNew) ?_
          clear hK K hHeld
          have hHeld := hNew; clear hNew
          try simp only [List.getElem_toArray, List.getElem_cons_succ, List.getElem_cons_zero, Act.put, List.setIfInBounds_toArray, List.set_cons_zero, List.set_cons_succ]
          have hS := EvSl.one wz e
          replace G0 : Hid (Below gw w (wz.alloc (Obj.cells (evA e) 39)) ∧ gw ≤ (wz.alloc (Obj.cells (evA e) 39)).heap.size) := Lib.hid ⟨gbel hB G0.out.1 G0.out.2, Nat.le_trans G0.out.2 hB.size⟩
          replace GA := Lib.hid (GA.out.keep hB)
          replace GB := Lib.hid (GB.out.keep hB)
          have hlo4 := Nat.lt_of_lt_of_le hlo3 hB.size
          clear hB hlo3
          generalize wz.alloc (Obj.cells (evA e) 39) = wy at hHeld hS G0 GA GB hlo4 ⊢
          refine wpAnyK_one (i := 8) (by kernel_rfl) rfl (fun K hK => ?_)
          refine append_step rfl _ _ rfl gw vr _ Lc [e] rfl rfl GB.out.own hS (by simp; omega) G0.out.2 ?_
          intro v1 wx O1 G1 T1
          have hng : vr.ownBlock ≠ some gr := GB.out.ne (by decide)
          have hFr := Fr.of_grown (X := fun k => some k = vr.ownBlock) G1 (fun k e => e)
          have hhr := hFr.blk (fun e => hng e.symm) GB.out.head
          have hrow := hFr.rowN (fun e => h9 g8 (.inr e) rfl) hHeld.2.2
          have J0 : Hid (Below gw w wx ∧ gw ≤ wx.heap.size) := Lib.hid ⟨hFr.below (fun k hk e => by have := (GB.out.own.lt k e.symm).1; omega) G0.out.2 G0.out.1, Nat.le_trans G0.out.2 hFr.size⟩
          have JA := Lib.hid (GA.out.fr hFr (fun k h1 h2 => FP.out k h1 (.inr h2)))
          have hbr := GB.out.base_le
          have hgy := GB.out.lt
          have hpl := log_lt GA.out
          have hNew := And.intro hhr (And.intro (cell_of_row wx gr 0 _ _ _ hhr) hrow)
          refine hK.out _ _ (Or.inr hNew) ?_
          clear hK K hHeld
          have hHeld := hNew; clear hNew
          try simp only [List.getElem_toArray, List.getElem_cons_succ, List.getElem_cons_zero, Act.put, List.setIfInBounds_toArray, List.set_cons_zero, List.set_cons_succ]
          refine wpAnyC_take (i := 9) (v := ?_) rfl (by kernel_rfl) (by kernel_rfl) (by kernel_rfl) (by kernel_rfl) (by kernel_rfl) (by kernel_rfl) (fun _ _ _ h => h) (Or.inl ⟨by rfl, ?_⟩) hHeld ?_
          rotate_left
          · intro w hSw; (try dsimp only at hSw); (try simp only [List.getElem_toArray, List.getElem_cons_succ, List.getElem_cons_zero]); (go_simp; try with_reducible rfl)
          try simp only [List.getElem_toArray, List.getElem_cons_succ, List.getElem_cons_zero, Act.put, List.setIfInBounds_toArray, List.set_cons_zero, List.set_cons_succ]
          refine wpAnyC_take (i := 10) (v := ?_) rfl (by kernel_rfl) (by kernel_rfl) (by kernel_rfl) (by kernel_rfl) (by kernel_rfl) (by kernel_rfl) (fun _ _ _ h => h) (Or.inl ⟨by rfl, ?_⟩) hHeld ?_
          rotate_left
          · intro w hSw; (try dsimp only at hSw); (try simp only [List.getElem_toArray, List.getElem_cons_succ, List.getElem_cons_zero]); (go_simp; try with_reducible rfl)
          try simp only [List.getElem_toArray, List.getElem_cons_succ, List.getElem_cons_zero, Act.put, List.setIfInBounds_toArray, List.set_cons_zero, List.set_cons_succ]
          obtain ⟨a1, cap1, rfl⟩ := O1.form
          have hf := frozen_of_row wx gr 0 _ _ hHeld.1
          refine wpAnyK_one (i := 11) (by kernel_rfl) rfl (fun K hK => ?_)
          (try simp only [List.getElem_toArray, List.getElem_cons_succ, List.getElem_cons_zero])
          go_simp
          refine hK.out _ _ (Or.inl (by kernel_rfl)) ?_
          clear hK K
          try simp only [List.getElem_toArray, List.getElem_cons_succ, List.getElem_cons_zero, Act.put, List.setIfInBounds_toArray, List.set_cons_zero, List.set_cons_succ]
          refine wpAnyK_done (by kernel_rfl) ?_ _
          have hne : (Value.slice a1 (Lc ++ [e]).length cap1).ownBlock ≠ some gr := fun e9 => by
            rcases T1 with h1 | h1
            · rw [h1] at e9; exact hng e9
            · rw [h1] at e9
              injection e9 with e9
              omega
          have KB := Lib.hid (LogT.put hhr O1 hne hbr)
          have hFs : Fr (fun k => k = gr) wx (wx.setCell ⟨gr, 0, none⟩ (Value.slice a1 (Lc ++ [e]).length cap1)) := Fr.setCell wx gr 0 _ rfl
          have FA := Lib.hid (JA.out.fr hFs (fun k h1 h2 => FP.out k h1 (.inl h2)))
          have F0 : Hid (Below gw w (wx.setCell ⟨gr, 0, none⟩ (Value.slice a1 (Lc ++ [e]).length cap1)) ∧ gw ≤ (wx.setCell ⟨gr, 0, none⟩ (Value.slice a1 (Lc ++ [e]).length cap1)).heap.size) := Lib.hid ⟨hFs.below (fun k hk e => by omega) J0.out.2 J0.out.1, Nat.le_trans J0.out.2 hFs.size⟩
          replace FP := Lib.hid (FP.out.symm.grow (va' := Value.slice a1 (Lc ++ [e]).length cap1) (n := wy.heap.size) (by
            rcases T1 with h1 | h1
            · exact .inl h1
            · exact .inr ⟨_, h1, Nat.le_refl _⟩) hpl).symm
          have FB := KB
          clear KB JA J0 GA GB G0 hHeld O1 G1 hFr hhr hrow hf hFs hpl hng hne T1 hlo4 h8 h9
          have hlen9 : (Lc ++ [e]).length = Lc.length + 1 := by simp
          rw [hlen9] at FA F0 FB FP
          generalize wx.setCell ⟨gr, 0, none⟩ (Value.slice a1 (Lc.length + 1) cap1) = wv at F0 FA FB ⊢
          
          have hcr := FB.out.cell
          go_wp2_with fail
          refine wp_region_held_drew (S := fun w' => (Below gw w w' ∧ gw ≤ w'.heap.size) ∧ LOG w' gw gp vp' (Lc ++ [e]) ∧ RLOG w' gw gr (.slice a1 (Lc.length + 1) cap1) (Lc ++ [e]) ∧ w'.cell? ⟨gr, 0, none⟩ = some (.slice a1 (Lc.length + 1) cap1)) (by kernel_rfl) ⟨⟨F0.out.1.drew, F0.out.2⟩, ⟨FA.out.head, FA.out.own, FA.out.base_le⟩, ⟨FB.out.head, FB.out.own, FB.out.base_le⟩, hcr⟩ (fun hHeld => ?_)
          refine wpAnyH_take (i := 0) (v := ?_) rfl (by kernel_rfl) (by kernel_rfl) (by kernel_rfl) (fun _ _ _ h => h) (Or.inl ⟨by rfl, ?_⟩) hHeld ?_
          rotate_left
          · intro w hSw; (try dsimp only at hSw); (try simp only [List.getElem_toArray, List.getElem_cons_succ, List.getElem_cons_zero]); (go_simp; try with_reducible rfl)
          try simp only [List.getElem_toArray, List.getElem_cons_succ, List.getElem_cons_zero, Act.put, List.setIfInBounds_toArray, List.set_cons_zero, List.set_cons_succ]
          refine wpAnyH_take (i := 2) (v := ?_) rfl (by kernel_rfl) (by kernel_rfl) (by kernel_rfl) (fun _ _ _ h => h) (Or.inl ⟨by rfl, ?_⟩) hHeld ?_
          rotate_left
          · intro w hSw; (try dsimp only at hSw); (try simp only [List.getElem_toArray, List.getElem_cons_succ, List.getElem_cons_zero]); (go_simp; try with_reducible rfl)
          try simp only [List.getElem_toArray, List.getElem_cons_succ, List.getElem_cons_zero, Act.put, List.setIfInBounds_toArray, List.set_cons_zero, List.set_cons_succ]
          refine wpAnyH_take (i := 3) (v := ?_) rfl (by kernel_rfl) (by kernel_rfl) (by kernel_rfl) (fun _ _ _ h => h) (Or.inl ⟨by rfl, ?_⟩) hHeld ?_
          rotate_left
          · intro w hSw; (try dsimp only at hSw); (try simp only [List.getElem_toArray, List.getElem_cons_succ, List.getElem_cons_zero]); (go_simp; try with_reducible rfl)
          try simp only [List.getElem_toArray, List.getElem_cons_succ, List.getElem_cons_zero, Act.put, List.setIfInBounds_toArray, List.set_cons_zero, List.set_cons_succ]
          refine wpAnyH_take (i := 4) (v := ?_) rfl (by kernel_rfl) (by kernel_rfl) (by kernel_rfl) (fun _ _ _ h => h) (Or.inl ⟨by rfl, ?_⟩) hHeld ?_
          rotate_left
          · intro w hSw; (try dsimp only at hSw); (try simp only [List.getElem_toArray, List.getElem_cons_succ, List.getElem_cons_zero]); (go_simp; try with_reducible rfl)
          try simp only [List.getElem_toArray, List.getElem_cons_succ, List.getElem_cons_zero, Act.put, List.setIfInBounds_toArray, List.set_cons_zero, List.set_cons_succ]
          refine wpAnyH_take (i := 5) (v := ?_) rfl (by kernel_rfl) (by kernel_rfl) (by kernel_rfl) (fun _ _ _ h => h) (Or.inl ⟨by rfl, ?_⟩) hHeld ?_
          rotate_left
          · intro w hSw; (try dsimp only at hSw); (try simp only [List.getElem_toArray, List.getElem_cons_succ, List.getElem_cons_zero]); (go_simp; try with_reducible rfl)
          try simp only [List.getElem_toArray, List.getElem_cons_succ, List.getElem_cons_zero, Act.put, List.setIfInBounds_toArray, List.set_cons_zero, List.set_cons_succ]
          refine wpAnyH_take (i := 6) (v := ?_) rfl (by kernel_rfl) (by kernel_rfl) (by kernel_rfl) (fun _ _ _ h => h) (Or.inl ⟨by rfl, ?_⟩) hHeld ?_
          rotate_left
          · intro w hSw; (try dsimp only at hSw); (try simp only [List.getElem_toArray, List.getElem_cons_succ, List.getElem_cons_zero]); (go_simp; try with_reducible rfl)
          try simp only [List.getElem_toArray, List.getElem_cons_succ, List.getElem_cons_zero, Act.put, List.setIfInBounds_toArray, List.set_cons_zero, List.set_cons_succ]
          refine wpAnyH_ready (rs := [1]) (by kernel_rfl) (by simp) ?_
          refine AllReadyH.cons rfl (fun K hK => ?_) AllReadyH.nil
          go_simp
          (refine Calls.mono (plen_any gw gp vp' ((Lc ++ [e])) _ hHeld.2.1) ?_; rintro e w' ⟨rfl, rfl⟩; have hb' := True.intro)
          refine hK.out _ _ hHeld (fun hNew => ?_)
          clear hK K hHeld hb'
          have hHeld := hNew
          clear hNew
          try simp only [List.getElem_toArray, List.getElem_cons_succ, List.getElem_cons_zero, Act.put, List.setIfInBounds_toArray, List.set_cons_zero, List.set_cons_succ]
          refine wpAnyH_take (i := 7) (v := ?_) rfl (by kernel_rfl) (by kernel_rfl) (by kernel_rfl) (fun _ _ _ h => h) (Or.inl ⟨by rfl, ?_⟩) hHeld ?_
          rotate_left
          · intro w hSw; (try dsimp only at hSw); (try simp only [List.getElem_toArray, List.getElem_cons_succ, List.getElem_cons_zero]); (go_simp; try with_reducible rfl)
          try simp only [List.getElem_toArray, List.getElem_cons_succ, List.getElem_cons_zero, Act.put, List.setIfInBounds_toArray, List.set_cons_zero, List.set_cons_succ]
          refine wpAnyH_done (by kernel_rfl) ?_ _
          have Q := Lib.hid hHeld
          clear hHeld F0 FA FB hcr
          go_wp2
          go_roundw
          case rel => exact ⟨k + 1, (Lc ++ [e]), vp', _, by omega, by go_num, by first | omega | (simp; omega) | (rw [← hLF']; exact hFl), Q.out.1, Q.out.2.1, Q.out.2.2.1, FP.out⟩
          case measure => simp [intOf]; omega
        by_cases hk2 : kk = 2
        · subst hk2
          have hB := (Below.refl wr.heap.size wr).alloc (Nat.le_refl _) (Obj.cells (opP 2 e v u n) 41)
          have F0 : Hid (Below gw w (wr.alloc (Obj.cells (opP 2 e v u n) 41)) ∧ gw ≤ (wr.alloc (Obj.cells (opP 2 e v u n) 41)).heap.size) := Lib.hid ⟨gbel hB Q0.out.1 Q0.out.2, Nat.le_trans Q0.out.2 hB.size⟩
          have FA := Lib.hid (QA.out.keep hB)
          have FB := Lib.hid (QB.out.keep hB)
          have FP := QP
          have o8 := opAt_blk (gblk_new wr (Obj.cells (opP 2 e v u n) 41))
          have h8 : ∀ k, LogX gp vp k → ¬ k = wr.heap.size := fun k hx e => by have := log_lt QA.out k hx; omega
          have h9 : ∀ k, LogX gr vr k → ¬ k = wr.heap.size := fun k hx e => by have := log_lt QB.out k hx; omega
          have s1 := o8.ev
          rw [Nat.zero_add] at s1
          have s2 := o8.v
          rw [Nat.zero_add] at s2
          have s3 := o8.u
          rw [Nat.zero_add] at s3
          have s4 := o8.n
          rw [Nat.zero_add] at s4
          have hlo := blk_lt (gblk_new wr (Obj.cells (opP 2 e v u n) 41))
          clear hB Q0 QA QB QP o8
          have r4 := FB.out.cell
          go_wp2_with fail
          clear hr
          generalize wr.alloc (Obj.cells (opP 2 e v u n) 41) = w6 at *
          generalize wr.heap.size = g8 at *
          refine wp_region_held_drew (S := fun w' => (Below gw w w' ∧ gw ≤ w'.heap.size) ∧ LOG w' gw gp vp Lc ∧ RLOG w' gw gr vr Lc ∧ rowN 16 w' g8 27 = some (vv v) ∧ rowN 16 w' g8 43 = some (vv u) ∧ w'.cell? ⟨g8, 59, none⟩ = some (.int .i64 n)) (by kernel_rfl) ⟨⟨F0.out.1.drew, F0.out.2⟩, ⟨FA.out.head, FA.out.own, FA.out.base_le⟩, ⟨FB.out.head, FB.out.own, FB.out.base_le⟩, s2, s3, s4⟩ (fun hHeld => ?_)
          refine wpAnyH_take (i := 0) (v := ?_) rfl (by kernel_rfl) (by kernel_rfl) (by kernel_rfl) (fun _ _ _ h => h) (Or.inl ⟨by rfl, ?_⟩) hHeld ?_
          rotate_left
          · intro w hSw; (try dsimp only at hSw); (try simp only [List.getElem_toArray, List.getElem_cons_succ, List.getElem_cons_zero]); (go_simp; try with_reducible rfl)
          try simp only [List.getElem_toArray, List.getElem_cons_succ, List.getElem_cons_zero, Act.put, List.setIfInBounds_toArray, List.set_cons_zero, List.set_cons_succ]
          refine wpAnyH_take (i := 1) (v := ?_) rfl (by kernel_rfl) (by kernel_rfl) (by kernel_rfl) (fun _ _ _ h => h) (Or.inl ⟨by rfl, ?_⟩) hHeld ?_
          rotate_left
          · intro w hSw; (try dsimp only at hSw); (try simp only [List.getElem_toArray, List.getElem_cons_succ, List.getElem_cons_zero]); (go_simp; try with_reducible rfl)
          try simp only [List.getElem_toArray, List.getElem_cons_succ, List.getElem_cons_zero, Act.put, List.setIfInBounds_toArray, List.set_cons_zero, List.set_cons_succ]
          refine wpAnyH_take (i := 2) (v := ?_) rfl (by kernel_rfl) (by kernel_rfl) (by kernel_rfl) (fun _ _ _ h => h) (Or.inl ⟨by rfl, ?_⟩) hHeld ?_
          rotate_left
          · intro w hSw; (try dsimp only at hSw); (try simp only [List.getElem_toArray, List.getElem_cons_succ, List.getElem_cons_zero]); (go_simp; try with_reducible rfl)
          try simp only [List.getElem_toArray, List.getElem_cons_succ, List.getElem_cons_zero, Act.put, List.setIfInBounds_toArray, List.set_cons_zero, List.set_cons_succ]
          refine wpAnyH_take (i := 3) (v := ?_) rfl (by kernel_rfl) (by kernel_rfl) (by kernel_rfl) (fun _ _ _ h => h) (Or.inl ⟨by rfl, ?_⟩) hHeld ?_
          rotate_left
          · intro w hSw; (try dsimp only at hSw); (try simp only [List.getElem_toArray, List.getElem_cons_succ, List.getElem_cons_zero]); (go_simp; try with_reducible rfl)
          try simp only [List.getElem_toArray, List.getElem_cons_succ, List.getElem_cons_zero, Act.put, List.setIfInBounds_toArray, List.set_cons_zero, List.set_cons_succ]
          refine wpAnyH_take (i := 4) (v := ?_) rfl (by kernel_rfl) (by kernel_rfl) (by kernel_rfl) (fun _ _ _ h => h) (Or.inl ⟨by rfl, ?_⟩) hHeld ?_
          rotate_left
          · intro w hSw; (try dsimp only at hSw); (try simp only [List.getElem_toArray, List.getElem_cons_succ, List.getElem_cons_zero]); (go_simp; try with_reducible rfl)
          try simp only [List.getElem_toArray, List.getElem_cons_succ, List.getElem_cons_zero, Act.put, List.setIfInBounds_toArray, List.set_cons_zero, List.set_cons_succ]
          refine wpAnyH_take (i := 5) (v := ?_) rfl (by kernel_rfl) (by kernel_rfl) (by kernel_rfl) (fun _ _ _ h => h) (Or.inl ⟨by rfl, ?_⟩) hHeld ?_
          rotate_left
          · intro w hSw; (try dsimp only at hSw); (try simp only [List.getElem_toArray, List.getElem_cons_succ, List.getElem_cons_zero]); (go_simp; try with_reducible rfl)
          try simp only [List.getElem_toArray, List.getElem_cons_succ, List.getElem_cons_zero, Act.put, List.setIfInBounds_toArray, List.set_cons_zero, List.set_cons_succ]
          refine wpAnyH_take (i := 6) (v := ?_) rfl (by kernel_rfl) (by kernel_rfl) (by kernel_rfl) (fun _ _ _ h => h) (Or.inl ⟨by rfl, ?_⟩) hHeld ?_
          rotate_left
          · intro w hSw; (try dsimp only at hSw); (try simp only [List.getElem_toArray, List.getElem_cons_succ, List.getElem_cons_zero]); (go_simp; try with_reducible rfl)
          try simp only [List.getElem_toArray, List.getElem_cons_succ, List.getElem_cons_zero, Act.put, List.setIfInBounds_toArray, List.set_cons_zero, List.set_cons_succ]
          refine wpAnyH_take (i := 8) (v := ?_) rfl (by kernel_rfl) (by kernel_rfl) (by kernel_rfl) (fun _ _ _ h => h) (Or.inl ⟨by rfl, ?_⟩) hHeld ?_
          rotate_left
          · intro w hSw; (try dsimp only at hSw); (try simp only [List.getElem_toArray, List.getElem_cons_succ, List.getElem_cons_zero]); (go_simp; try with_reducible rfl)
          try simp only [List.getElem_toArray, List.getElem_cons_succ, List.getElem_cons_zero, Act.put, List.setIfInBounds_toArray, List.set_cons_zero, List.set_cons_succ]
          refine wpAnyH_take (i := 9) (v := ?_) rfl (by kernel_rfl) (by kernel_rfl) (by kernel_rfl) (fun _ _ _ h => h) (Or.inl ⟨by rfl, ?_⟩) hHeld ?_
          rotate_left
          · intro w hSw; (try dsimp only at hSw); (try simp only [List.getElem_toArray, List.getElem_cons_succ, List.getElem_cons_zero]); (go_simp; try with_reducible rfl)
          try simp only [List.getElem_toArray, List.getElem_cons_succ, List.getElem_cons_zero, Act.put, List.setIfInBounds_toArray, List.set_cons_zero, List.set_cons_succ]
          refine wpAnyH_take (i := 10) (v := ?_) rfl (by kernel_rfl) (by kernel_rfl) (by kernel_rfl) (fun _ _ _ h => h) (Or.inl ⟨by rfl, ?_⟩) hHeld ?_
          rotate_left
          · intro w hSw; (try dsimp only at hSw); (try simp only [List.getElem_toArray, List.getElem_cons_succ, List.getElem_cons_zero]); (go_simp; try with_reducible rfl)
          try simp only [List.getElem_toArray, List.getElem_cons_succ, List.getElem_cons_zero, Act.put, List.setIfInBounds_toArray, List.set_cons_zero, List.set_cons_succ]
          refine wpAnyH_take (i := 11) (v := ?_) rfl (by kernel_rfl) (by kernel_rfl) (by kernel_rfl) (fun _ _ _ h => h) (Or.inl ⟨by rfl, ?_⟩) hHeld ?_
          rotate_left
          · intro w hSw; (try dsimp only at hSw); (try simp only [List.getElem_toArray, List.getElem_cons_succ, List.getElem_cons_zero]); (go_simp; try with_reducible rfl)
          try simp only [List.getElem_toArray, List.getElem_cons_succ, List.getElem_cons_zero, Act.put, List.setIfInBounds_toArray, List.set_cons_zero, List.set_cons_succ]
          refine wpAnyH_take (i := 12) (v := ?_) rfl (by kernel_rfl) (by kernel_rfl) (by kernel_rfl) (fun _ _ _ h => h) (Or.inl ⟨by rfl, ?_⟩) hHeld ?_
          rotate_left
          · intro w hSw; (try dsimp only at hSw); (try simp only [List.getElem_toArray, List.getElem_cons_succ, List.getElem_cons_zero]); (go_simp; try with_reducible rfl)
          try simp only [List.getElem_toArray, List.getElem_cons_succ, List.getElem_cons_zero, Act.put, List.setIfInBounds_toArray, List.set_cons_zero, List.set_cons_succ]
          refine wpAnyH_take (i := 13) (v := ?_) rfl (by kernel_rfl) (by kernel_rfl) (by kernel_rfl) (fun _ _ _ h => h) (Or.inl ⟨by rfl, ?_⟩) hHeld ?_
          rotate_left
          · intro w hSw; (try dsimp only at hSw); (try simp only [List.getElem_toArray, List.getElem_cons_succ, List.getElem_cons_zero]); (go_simp; try with_reducible rfl)
          try simp only [List.getElem_toArray, List.getElem_cons_succ, List.getElem_cons_zero, Act.put, List.setIfInBounds_toArray, List.set_cons_zero, List.set_cons_succ]
          refine wpAnyH_take (i := 14) (v := ?_) rfl (by kernel_rfl) (by kernel_rfl) (by kernel_rfl) (fun _ _ _ h => h) (Or.inl ⟨by rfl, ?_⟩) hHeld ?_
          rotate_left
          · intro w hSw; (try dsimp only at hSw); (try simp only [List.getElem_toArray, List.getElem_cons_succ, List.getElem_cons_zero]); (go_simp; try with_reducible rfl)
          try simp only [List.getElem_toArray, List.getElem_cons_succ, List.getElem_cons_zero, Act.put, List.setIfInBounds_toArray, List.set_cons_zero, List.set_cons_succ]
          refine wpAnyH_ready (rs := [7]) (by kernel_rfl) (by simp) ?_
          refine AllReadyH.cons rfl (fun K hK => ?_) AllReadyH.nil
          go_simp
          (refine Calls.mono (for_any gw gp vp Lc v u n _ hHeld.2.1 (by omega)) ?_; rintro e w' ⟨xo, rfl, hb', ho⟩; have h11 := Lib.hid ho.sl)
          refine hK.out _ _ ⟨⟨gbel hb' hHeld.1.1 hHeld.1.2, Nat.le_trans hHeld.1.2 hb'.size⟩, hHeld.2.1.keep hb', hHeld.2.2.1.keep hb', rowN_keep hb' hHeld.2.2.2.1, rowN_keep hb' hHeld.2.2.2.2.1, gcell hb' hHeld.2.2.2.2.2⟩ (fun hNew => ?_)
          clear hK K hHeld hb'
          have hHeld := hNew
          clear hNew
          try simp only [List.getElem_toArray, List.getElem_cons_succ, List.getElem_cons_zero, Act.put, List.setIfInBounds_toArray, List.set_cons_zero, List.set_cons_succ]
          refine wpAnyH_ready (rs := [15]) (by kernel_rfl) (by simp) ?_
          refine AllReadyH.cons rfl (fun K hK => ?_) AllReadyH.nil
          go_simp
          (refine Calls.mono (rfor_any gw gr vr Lc v u n _ hHeld.2.2.1 (by omega)) ?_; rintro e w' ⟨xa, rfl, hb', hoa⟩; replace h11 := Lib.hid (h11.out.keep hb'); have h12 := Lib.hid hoa.sl)
          refine hK.out _ _ ⟨⟨gbel hb' hHeld.1.1 hHeld.1.2, Nat.le_trans hHeld.1.2 hb'.size⟩, hHeld.2.1.keep hb', hHeld.2.2.1.keep hb', rowN_keep hb' hHeld.2.2.2.1, rowN_keep hb' hHeld.2.2.2.2.1, gcell hb' hHeld.2.2.2.2.2⟩ (fun hNew => ?_)
          clear hK K hHeld hb'
          have hHeld := hNew
          clear hNew
          try simp only [List.getElem_toArray, List.getElem_cons_succ, List.getElem_cons_zero, Act.put, List.setIfInBounds_toArray, List.set_cons_zero, List.set_cons_succ]
          refine wpAnyH_ready (rs := [16]) (by kernel_rfl) (by simp) ?_
          refine AllReadyH.cons rfl (fun K hK => ?_) AllReadyH.nil
          go_simp
          (refine Calls.mono (same_any xo xa _ _ h11.out h12.out) ?_; rintro e w' ⟨rfl, hb'⟩)
          refine hK.out _ _ ⟨⟨gbel hb' hHeld.1.1 hHeld.1.2, Nat.le_trans hHeld.1.2 hb'.size⟩, hHeld.2.1.keep hb', hHeld.2.2.1.keep hb', rowN_keep hb' hHeld.2.2.2.1, rowN_keep hb' hHeld.2.2.2.2.1, gcell hb' hHeld.2.2.2.2.2⟩ (fun hNew => ?_)
          clear hK K hHeld hb'
          have hHeld := hNew
          clear hNew
          try simp only [List.getElem_toArray, List.getElem_cons_succ, List.getElem_cons_zero, Act.put, List.setIfInBounds_toArray, List.set_cons_zero, List.set_cons_succ]
          refine wpAnyH_take (i := 17) (v := ?_) rfl (by kernel_rfl) (by kernel_rfl) (by kernel_rfl) (fun _ _ _ h => h) (Or.inl ⟨by rfl, ?_⟩) hHeld ?_
          rotate_left
          · intro w hSw; (try dsimp only at hSw); (try simp only [List.getElem_toArray, List.getElem_cons_succ, List.getElem_cons_zero]); (go_simp; try with_reducible rfl)
          try simp only [List.getElem_toArray, List.getElem_cons_succ, List.getElem_cons_zero, Act.put, List.setIfInBounds_toArray, List.set_cons_zero, List.set_cons_succ]
          refine wpAnyH_done (by kernel_rfl) ?_ _
          replace F0 := Lib.hid hHeld.1
          replace FA := Lib.hid hHeld.2.1
          replace FB := Lib.hid hHeld.2.2.1
          clear hHeld s1 s2 s3 s4 r4 h8 h9 ho hoa h11 h12 hlo
          obtain ⟨a9, c9, e9⟩ := FB.out.own.form
          subst e9
          have hcr := FB.out.cell
          go_wp2_with fail
          refine wp_region_held_drew (S := fun w' => (Below gw w w' ∧ gw ≤ w'.heap.size) ∧ LOG w' gw gp vp Lc ∧ RLOG w' gw gr (.slice a9 (Lc).length c9) Lc ∧ w'.cell? ⟨gr, 0, none⟩ = some (.slice a9 (Lc).length c9)) (by kernel_rfl) ⟨⟨F0.out.1.drew, F0.out.2⟩, ⟨FA.out.head, FA.out.own, FA.out.base_le⟩, ⟨FB.out.head, FB.out.own, FB.out.base_le⟩, hcr⟩ (fun hHeld => ?_)
          refine wpAnyH_take (i := 0) (v := ?_) rfl (by kernel_rfl) (by kernel_rfl) (by kernel_rfl) (fun _ _ _ h => h) (Or.inl ⟨by rfl, ?_⟩) hHeld ?_
          rotate_left
          · intro w hSw; (try dsimp only at hSw); (try simp only [List.getElem_toArray, List.getElem_cons_succ, List.getElem_cons_zero]); (go_simp; try with_reducible rfl)
          try simp only [List.getElem_toArray, List.getElem_cons_succ, List.getElem_cons_zero, Act.put, List.setIfInBounds_toArray, List.set_cons_zero, List.set_cons_succ]
          refine wpAnyH_take (i := 2) (v := ?_) rfl (by kernel_rfl) (by kernel_rfl) (by kernel_rfl) (fun _ _ _ h => h) (Or.inl ⟨by rfl, ?_⟩) hHeld ?_
          rotate_left
          · intro w hSw; (try dsimp only at hSw); (try simp only [List.getElem_toArray, List.getElem_cons_succ, List.getElem_cons_zero]); (go_simp; try with_reducible rfl)
          try simp only [List.getElem_toArray, List.getElem_cons_succ, List.getElem_cons_zero, Act.put, List.setIfInBounds_toArray, List.set_cons_zero, List.set_cons_succ]
          refine wpAnyH_take (i := 3) (v := ?_) rfl (by kernel_rfl) (by kernel_rfl) (by kernel_rfl) (fun _ _ _ h => h) (Or.inl ⟨by rfl, ?_⟩) hHeld ?_
          rotate_left
          · intro w hSw; (try dsimp only at hSw); (try simp only [List.getElem_toArray, List.getElem_cons_succ, List.getElem_cons_zero]); (go_simp; try with_reducible rfl)
          try simp only [List.getElem_toArray, List.getElem_cons_succ, List.getElem_cons_zero, Act.put, List.setIfInBounds_toArray, List.set_cons_zero, List.set_cons_succ]
          refine wpAnyH_take (i := 4) (v := ?_) rfl (by kernel_rfl) (by kernel_rfl) (by kernel_rfl) (fun _ _ _ h => h) (Or.inl ⟨by rfl, ?_⟩) hHeld ?_
          rotate_left
          · intro w hSw; (try dsimp only at hSw); (try simp only [List.getElem_toArray, List.getElem_cons_succ, List.getElem_cons_zero]); (go_simp; try with_reducible rfl)
          try simp only [List.getElem_toArray, List.getElem_cons_succ, List.getElem_cons_zero, Act.put, List.setIfInBounds_toArray, List.set_cons_zero, List.set_cons_succ]
          refine wpAnyH_take (i := 5) (v := ?_) rfl (by kernel_rfl) (by kernel_rfl) (by kernel_rfl) (fun _ _ _ h => h) (Or.inl ⟨by rfl, ?_⟩) hHeld ?_
          rotate_left
          · intro w hSw; (try dsimp only at hSw); (try simp only [List.getElem_toArray, List.getElem_cons_succ, List.getElem_cons_zero]); (go_simp; try with_reducible rfl)
          try simp only [List.getElem_toArray, List.getElem_cons_succ, List.getElem_cons_zero, Act.put, List.setIfInBounds_toArray, List.set_cons_zero, List.set_cons_succ]
          refine wpAnyH_take (i := 6) (v := ?_) rfl (by kernel_rfl) (by kernel_rfl) (by kernel_rfl) (fun _ _ _ h => h) (Or.inl ⟨by rfl, ?_⟩) hHeld ?_
          rotate_left
          · intro w hSw; (try dsimp only at hSw); (try simp only [List.getElem_toArray, List.getElem_cons_succ, List.getElem_cons_zero]); (go_simp; try with_reducible rfl)
          try simp only [List.getElem_toArray, List.getElem_cons_succ, List.getElem_cons_zero, Act.put, List.setIfInBounds_toArray, List.set_cons_zero, List.set_cons_succ]
          refine wpAnyH_ready (rs := [1]) (by kernel_rfl) (by simp) ?_
          refine AllReadyH.cons rfl (fun K hK => ?_) AllReadyH.nil
          go_simp
          (refine Calls.mono (plen_any gw gp vp (Lc) _ hHeld.2.1) ?_; rintro e w' ⟨rfl, rfl⟩; have hb' := True.intro)
          refine hK.out _ _ hHeld (fun hNew => ?_)
          clear hK K hHeld hb'
          have hHeld := hNew
          clear hNew
          try simp only [List.getElem_toArray, List.getElem_cons_succ, List.getElem_cons_zero, Act.put, List.setIfInBounds_toArray, List.set_cons_zero, List.set_cons_succ]
          refine wpAnyH_take (i := 7) (v := ?_) rfl (by kernel_rfl) (by kernel_rfl) (by kernel_rfl) (fun _ _ _ h => h) (Or.inl ⟨by rfl, ?_⟩) hHeld ?_
          rotate_left
          · intro w hSw; (try dsimp only at hSw); (try simp only [List.getElem_toArray, List.getElem_cons_succ, List.getElem_cons_zero]); (go_simp; try with_reducible rfl)
          try simp only [List.getElem_toArray, List.getElem_cons_succ, List.getElem_cons_zero, Act.put, List.setIfInBounds_toArray, List.set_cons_zero, List.set_cons_succ]
          refine wpAnyH_done (by kernel_rfl) ?_ _
          have Q := Lib.hid hHeld
          clear hHeld F0 FA FB hcr
          go_wp2
          go_roundw
          case rel => exact ⟨k + 1, Lc, vp, _, by omega, by go_num, by first | omega | (simp; omega) | (rw [← hLF']; exact hFl), Q.out.1, Q.out.2.1, Q.out.2.2.1, FP.out⟩
          case measure => simp [intOf]; omega
        by_cases hk3 : kk = 3
        · subst hk3
          have hB := (Below.refl wr.heap.size wr).alloc (Nat.le_refl _) (Obj.cells (opP 3 e v u n) 41)
          have F0 : Hid (Below gw w (wr.alloc (Obj.cells (opP 3 e v u n) 41)) ∧ gw ≤ (wr.alloc (Obj.cells (opP 3 e v u n) 41)).heap.size) := Lib.hid ⟨gbel hB Q0.out.1 Q0.out.2, Nat.le_trans Q0.out.2 hB.size⟩
          have FA := Lib.hid (QA.out.keep hB)
          have FB := Lib.hid (QB.out.keep hB)
          have FP := QP
          have o8 := opAt_blk (gblk_new wr (Obj.cells (opP 3 e v u n) 41))
          have h8 : ∀ k, LogX gp vp k → ¬ k = wr.heap.size := fun k hx e => by have := log_lt QA.out k hx; omega
          have h9 : ∀ k, LogX gr vr k → ¬ k = wr.heap.size := fun k hx e => by have := log_lt QB.out k hx; omega
          have s1 := o8.ev
          rw [Nat.zero_add] at s1
          have s2 := o8.v
          rw [Nat.zero_add] at s2
          have s3 := o8.u
          rw [Nat.zero_add] at s3
          have s4 := o8.n
          rw [Nat.zero_add] at s4
          have hlo := blk_lt (gblk_new wr (Obj.cells (opP 3 e v u n) 41))
          clear hB Q0 QA QB QP o8
          go_wp2_with fail
          clear hr
          generalize wr.alloc (Obj.cells (opP 3 e v u n) 41) = w6 at *
          generalize wr.heap.size = g8 at *
          have hFl : (Lc.filter (keptB v)).length ≤ Lc.length := List.length_filter_le _ _
          have hgrn : ∀ k, k < gw → ¬ k = gr := fun k hk e => by have := FB.out.base_le; omega
          have hg8r : ¬ g8 = gr := fun e => h9 g8 (.inl e) rfl
          have GA : Hid (LOG w6.drew gw gp vp Lc) := Lib.hid ⟨FA.out.head, FA.out.own, FA.out.base_le⟩
          have GB : Hid (RLOG w6.drew gw gr vr Lc) := Lib.hid ⟨FB.out.head, FB.out.own, FB.out.base_le⟩
          refine wp_region_held_drew (S := fun w' => (Below gw w w' ∧ gw ≤ w'.heap.size) ∧ rowN 16 w' g8 27 = some (vv v)) (by kernel_rfl) ⟨⟨F0.out.1.drew, F0.out.2⟩, s2⟩ (fun hHeld => ?_)
          refine wpAnyH_take (i := 0) (v := ?_) rfl (by kernel_rfl) (by kernel_rfl) (by kernel_rfl) (fun _ _ _ h => h) (Or.inl ⟨by rfl, ?_⟩) hHeld ?_
          rotate_left
          · intro w hSw; (try dsimp only at hSw); (try simp only [List.getElem_toArray, List.getElem_cons_succ, List.getElem_cons_zero]); (go_simp; try with_reducible rfl)
          try simp only [List.getElem_toArray, List.getElem_cons_succ, List.getElem_cons_zero, Act.put, List.setIfInBounds_toArray, List.set_cons_zero, List.set_cons_succ]
          refine wpAnyH_take (i := 1) (v := ?_) rfl (by kernel_rfl) (by kernel_rfl) (by kernel_rfl) (fun _ _ _ h => h) (Or.inl ⟨by rfl, ?_⟩) hHeld ?_
          rotate_left
          · intro w hSw; (try dsimp only at hSw); (try simp only [List.getElem_toArray, List.getElem_cons_succ, List.getElem_cons_zero]); (go_simp; try with_reducible rfl)
          try simp only [List.getElem_toArray, List.getElem_cons_succ, List.getElem_cons_zero, Act.put, List.setIfInBounds_toArray, List.set_cons_zero, List.set_cons_succ]
          refine wpAnyH_take (i := 2) (v := ?_) rfl (by kernel_rfl) (by kernel_rfl) (by kernel_rfl) (fun _ _ _ h => h) (Or.inl ⟨by rfl, ?_⟩) hHeld ?_
          rotate_left
          · intro w hSw; (try dsimp only at hSw); (try simp only [List.getElem_toArray, List.getElem_cons_succ, List.getElem_cons_zero]); (go_simp; try with_reducible rfl)
          try simp only [List.getElem_toArray, List.getElem_cons_succ, List.getElem_cons_zero, Act.put, List.setIfInBounds_toArray, List.set_cons_zero, List.set_cons_succ]
          refine wpAnyH_take (i := 4) (v := ?_) rfl (by kernel_rfl) (by kernel_rfl) (by kernel_rfl) (fun _ _ _ h => h) (Or.inl ⟨by rfl, ?_⟩) hHeld ?_
          rotate_left
          · intro w hSw; (try dsimp only at hSw); (try simp only [List.getElem_toArray, List.getElem_cons_succ, List.getElem_cons_zero]); (go_simp; try with_reducible rfl)
          try simp only [List.getElem_toArray, List.getElem_cons_succ, List.getElem_cons_zero, Act.put, List.setIfInBounds_toArray, List.set_cons_zero, List.set_cons_succ]
          refine wpAnyH_take (i := 5) (v := ?_) rfl (by kernel_rfl) (by kernel_rfl) (by kernel_rfl) (fun _ _ _ h => h) (Or.inl ⟨by rfl, ?_⟩) hHeld ?_
          rotate_left
          · intro w hSw; (try dsimp only at hSw); (try simp only [List.getElem_toArray, List.getElem_cons_succ, List.getElem_cons_zero]); (go_simp; try with_reducible rfl)
          try simp only [List.getElem_toArray, List.getElem_cons_succ, List.getElem_cons_zero, Act.put, List.setIfInBounds_toArray, List.set_cons_zero, List.set_cons_succ]
          refine wpAnyH_take (i := 6) (v := ?_) rfl (by kernel_rfl) (by kernel_rfl) (by kernel_rfl) (fun _ _ _ h => h) (Or.inl ⟨by rfl, ?_⟩) hHeld ?_
          rotate_left
          · intro w hSw; (try dsimp only at hSw); (try simp only [List.getElem_toArray, List.getElem_cons_succ, List.getElem_cons_zero]); (go_simp; try with_reducible rfl)
          try simp only [List.getElem_toArray, List.getElem_cons_succ, List.getElem_cons_zero, Act.put, List.setIfInBounds_toArray, List.set_cons_zero, List.set_cons_succ]
          refine wpAnyH_ready (rs := [3]) (by kernel_rfl) (by simp) ?_
          refine AllReadyH.cons rfl (fun K hK => ?_) AllReadyH.nil
          go_simp
          (refine Calls.mono (trim_any gw gp vp Lc v _ GA.out (by omega)) ?_; rintro e w' ⟨rfl, hF, vp', ka, hva⟩; have hb' := True.intro; have hge := LogX.ge GA.out; have FB0 := GB.out; replace GB := Lib.hid (GB.out.fr hF (fun k h1 h2 => FP.out k h2 h1)); replace FP := Lib.hid (FP.out.grow (.inl hva) (log_lt FB0)); have hS : (Below gw w w' ∧ gw ≤ w'.heap.size) ∧ rowN 16 w' g8 27 = some (vv v) := ⟨⟨hF.below (fun k hk => hge k hk) hHeld.1.2 hHeld.1.1, Nat.le_trans hHeld.1.2 hF.size⟩, hF.rowN (fun hx => h8 g8 hx rfl) hHeld.2⟩; replace GA := Lib.hid ka)
          refine hK.out _ _ hS (fun hNew => ?_)
          clear hK K hHeld hb'
          have hHeld := hNew
          clear hNew
          try simp only [List.getElem_toArray, List.getElem_cons_succ, List.getElem_cons_zero, Act.put, List.setIfInBounds_toArray, List.set_cons_zero, List.set_cons_succ]
          refine wpAnyH_ready (rs := [7]) (by kernel_rfl) (by simp) ?_
          refine AllReadyH.cons rfl (fun K hK => ?_) AllReadyH.nil
          go_simp
          (refine Calls.mono (rtrim_any gw gr vr Lc v _ GB.out (by omega)) ?_; rintro e w2' ⟨rfl, hF2, vr', kb, hvb⟩; have hb' := True.intro; have FA0 := log_lt GA.out; replace GA := Lib.hid (GA.out.fr hF2 (fun k h1 h2 => FP.out k h1 (.inl h2))); have FP2 : Hid (Apart gp vp' gr vr') := Lib.hid (fun k h1 h2 => by rcases h2 with h2 | h2; exact FP.out k h1 (.inl h2); have z1 := hvb k h2.symm; have z2 := FA0 k h1; omega); have hS : (Below gw w w2' ∧ gw ≤ w2'.heap.size) ∧ rowN 16 w2' g8 27 = some (vv v) := ⟨⟨hF2.below (fun k hk => hgrn k hk) hHeld.1.2 hHeld.1.1, Nat.le_trans hHeld.1.2 hF2.size⟩, hF2.rowN hg8r hHeld.2⟩; replace GB := Lib.hid kb)
          refine hK.out _ _ hS (fun hNew => ?_)
          clear hK K hHeld hb'
          have hHeld := hNew
          clear hNew
          try simp only [List.getElem_toArray, List.getElem_cons_succ, List.getElem_cons_zero, Act.put, List.setIfInBounds_toArray, List.set_cons_zero, List.set_cons_succ]
          refine wpAnyH_take (i := 8) (v := ?_) rfl (by kernel_rfl) (by kernel_rfl) (by kernel_rfl) (fun _ _ _ h => h) (Or.inl ⟨by rfl, ?_⟩) hHeld ?_
          rotate_left
          · intro w hSw; (try dsimp only at hSw); (try simp only [List.getElem_toArray, List.getElem_cons_succ, List.getElem_cons_zero]); (go_simp; try with_reducible rfl)
          try simp only [List.getElem_toArray, List.getElem_cons_succ, List.getElem_cons_zero, Act.put, List.setIfInBounds_toArray, List.set_cons_zero, List.set_cons_succ]
          refine wpAnyH_done (by kernel_rfl) ?_ _
          replace F0 := Lib.hid hHeld.1
          replace FA := GA
          replace FB := GB
          replace FP := FP2
          clear hHeld s1 s2 s3 s4 h8 h9 hlo hS FP2 GA GB hF hF2 ka kb hge FB0 FA0 hgrn hva hvb
          generalize hLF' : Lc.filter (keptB v) = LF at *
          obtain ⟨a9, c9, e9⟩ := FB.out.own.form
          subst e9
          have hcr := FB.out.cell
          go_wp2_with fail
          refine wp_region_held_drew (S := fun w' => (Below gw w w' ∧ gw ≤ w'.heap.size) ∧ LOG w' gw gp vp' LF ∧ RLOG w' gw gr (.slice a9 (LF).length c9) LF ∧ w'.cell? ⟨gr, 0, none⟩ = some (.slice a9 (LF).length c9)) (by kernel_rfl) ⟨⟨F0.out.1.drew, F0.out.2⟩, ⟨FA.out.head, FA.out.own, FA.out.base_le⟩, ⟨FB.out.head, FB.out.own, FB.out.base_le⟩, hcr⟩ (fun hHeld => ?_)
          refine wpAnyH_take (i := 0) (v := ?_) rfl (by kernel_rfl) (by kernel_rfl) (by kernel_rfl) (fun _ _ _ h => h) (Or.inl ⟨by rfl, ?_⟩) hHeld ?_
          rotate_left
          · intro w hSw; (try dsimp only at hSw); (try simp only [List.getElem_toArray, List.getElem_cons_succ, List.getElem_cons_zero]); (go_simp; try with_reducible rfl)
          try simp only [List.getElem_toArray, List.getElem_cons_succ, List.getElem_cons_zero, Act.put, List.setIfInBounds_toArray, List.set_cons_zero, List.set_cons_succ]
          refine wpAnyH_take (i := 2) (v := ?_) rfl (by kernel_rfl) (by kernel_rfl) (by kernel_rfl) (fun _ _ _ h => h) (Or.inl ⟨by rfl, ?_⟩) hHeld ?_
          rotate_left
          · intro w hSw; (try dsimp only at hSw); (try simp only [List.getElem_toArray, List.getElem_cons_succ, List.getElem_cons_zero]); (go_simp; try with_reducible rfl)
          try simp only [List.getElem_toArray, List.getElem_cons_succ, List.getElem_cons_zero, Act.put, List.setIfInBounds_toArray, List.set_cons_zero, List.set_cons_succ]
          refine wpAnyH_take (i := 3) (v := ?_) rfl (by kernel_rfl) (by kernel_rfl) (by kernel_rfl) (fun _ _ _ h => h) (Or.inl ⟨by rfl, ?_⟩) hHeld ?_
          rotate_left
          · intro w hSw; (try dsimp only at hSw); (try simp only [List.getElem_toArray, List.getElem_cons_succ, List.getElem_cons_zero]); (go_simp; try with_reducible rfl)
          try simp only [List.getElem_toArray, List.getElem_cons_succ, List.getElem_cons_zero, Act.put, List.setIfInBounds_toArray, List.set_cons_zero, List.set_cons_succ]
          refine wpAnyH_take (i := 4) (v := ?_) rfl (by kernel_rfl) (by kernel_rfl) (by kernel_rfl) (fun _ _ _ h => h) (Or.inl ⟨by rfl, ?_⟩) hHeld ?_
          rotate_left
          · intro w hSw; (try dsimp only at hSw); (try simp only [List.getElem_toArray, List.getElem_cons_succ, List.getElem_cons_zero]); (go_simp; try with_reducible rfl)
          try simp only [List.getElem_toArray, List.getElem_cons_succ, List.getElem_cons_zero, Act.put, List.setIfInBounds_toArray, List.set_cons_zero, List.set_cons_succ]
          refine wpAnyH_take (i := 5) (v := ?_) rfl (by kernel_rfl) (by kernel_rfl) (by kernel_rfl) (fun _ _ _ h => h) (Or.inl ⟨by rfl, ?_⟩) hHeld ?_
          rotate_left
          · intro w hSw; (try dsimp only at hSw); (try simp only [List.getElem_toArray, List.getElem_cons_succ, List.getElem_cons_zero]); (go_simp; try with_reducible rfl)
          try simp only [List.getElem_toArray, List.getElem_cons_succ, List.getElem_cons_zero, Act.put, List.setIfInBounds_toArray, List.set_cons_zero, List.set_cons_succ]
          refine wpAnyH_take (i := 6) (v := ?_) rfl (by kernel_rfl) (by kernel_rfl) (by kernel_rfl) (fun _ _ _ h => h) (Or.inl ⟨by rfl, ?_⟩) hHeld ?_
          rotate_left
          · intro w hSw; (try dsimp only at hSw); (try simp only [List.getElem_toArray, List.getElem_cons_succ, List.getElem_cons_zero]); (go_simp; try with_reducible rfl)
          try simp only [List.getElem_toArray, List.getElem_cons_succ, List.getElem_cons_zero, Act.put, List.setIfInBounds_toArray, List.set_cons_zero, List.set_cons_succ]
          refine wpAnyH_ready (rs := [1]) (by kernel_rfl) (by simp) ?_
          refine AllReadyH.cons rfl (fun K hK => ?_) AllReadyH.nil
          go_simp
          (refine Calls.mono (plen_any gw gp vp' (LF) _ hHeld.2.1) ?_; rintro e w' ⟨rfl, rfl⟩; have hb' := True.intro)
          refine hK.out _ _ hHeld (fun hNew => ?_)
          clear hK K hHeld hb'
          have hHeld := hNew
          clear hNew
          try simp only [List.getElem_toArray, List.getElem_cons_succ, List.getElem_cons_zero, Act.put, List.setIfInBounds_toArray, List.set_cons_zero, List.set_cons_succ]
          refine wpAnyH_take (i := 7) (v := ?_) rfl (by kernel_rfl) (by kernel_rfl) (by kernel_rfl) (fun _ _ _ h => h) (Or.inl ⟨by rfl, ?_⟩) hHeld ?_
          rotate_left
          · intro w hSw; (try dsimp only at hSw); (try simp only [List.getElem_toArray, List.getElem_cons_succ, List.getElem_cons_zero]); (go_simp; try with_reducible rfl)
          try simp only [List.getElem_toArray, List.getElem_cons_succ, List.getElem_cons_zero, Act.put, List.setIfInBounds_toArray, List.set_cons_zero, List.set_cons_succ]
          refine wpAnyH_done (by kernel_rfl) ?_ _
          have Q := Lib.hid hHeld
          clear hHeld F0 FA FB hcr
          go_wp2
          go_roundw
          case rel => exact ⟨k + 1, LF, vp', _, by omega, by go_num, by first | omega | (simp; omega) | (rw [← hLF']; exact hFl), Q.out.1, Q.out.2.1, Q.out.2.2.1, FP.out⟩
          case measure => simp [intOf]; omega
        have hB := (Below.refl wr.heap.size wr).alloc (Nat.le_refl _) (Obj.cells (opP kk e v u n) 41)
        have F0 : Hid (Below gw w (wr.alloc (Obj.cells (opP kk e v u n) 41)) ∧ gw ≤ (wr.alloc (Obj.cells (opP kk e v u n) 41)).heap.size) := Lib.hid ⟨gbel hB Q0.out.1 Q0.out.2, Nat.le_trans Q0.out.2 hB.size⟩
        have FA := Lib.hid (QA.out.keep hB)
        have FB := Lib.hid (QB.out.keep hB)
        have FP := QP
        have o8 := opAt_blk (gblk_new wr (Obj.cells (opP kk e v u n) 41))
        have h8 : ∀ k, LogX gp vp k → ¬ k = wr.heap.size := fun k hx e => by have := log_lt QA.out k hx; omega
        have h9 : ∀ k, LogX gr vr k → ¬ k = wr.heap.size := fun k hx e => by have := log_lt QB.out k hx; omega
        have s1 := o8.ev
        rw [Nat.zero_add] at s1
        have s2 := o8.v
        rw [Nat.zero_add] at s2
        have s3 := o8.u
        rw [Nat.zero_add] at s3
        have s4 := o8.n
        rw [Nat.zero_add] at s4
        have hlo := blk_lt (gblk_new wr (Obj.cells (opP kk e v u n) 41))
        clear hB Q0 QA QB QP o8
        have hk1' : (kk == 1) = false := by simp [hk1]
        have hk2' : (kk == 2) = false := by simp [hk2]
        have hk3' : (kk == 3) = false := by simp [hk3]
        obtain ⟨a9, c9, e9⟩ := FB.out.own.form
        subst e9
        have hcr := FB.out.cell
        go_wp2_with fail
        clear hr
        generalize wr.alloc (Obj.cells (opP kk e v u n) 41) = w6 at *
        generalize wr.heap.size = g8 at *
        clear s1 s2 s3 s4 h8 h9 hlo
        refine wp_region_held_drew (S := fun w' => (Below gw w w' ∧ gw ≤ w'.heap.size) ∧ LOG w' gw gp vp Lc ∧ RLOG w' gw gr (.slice a9 (Lc).length c9) Lc ∧ w'.cell? ⟨gr, 0, none⟩ = some (.slice a9 (Lc).length c9)) (by kernel_rfl) ⟨⟨F0.out.1.drew, F0.out.2⟩, ⟨FA.out.head, FA.out.own, FA.out.base_le⟩, ⟨FB.out.head, FB.out.own, FB.out.base_le⟩, hcr⟩ (fun hHeld => ?_)
        refine wpAnyH_take (i := 0) (v := ?_) rfl (by kernel_rfl) (by kernel_rfl) (by kernel_rfl) (fun _ _ _ h => h) (Or.inl ⟨by rfl, ?_⟩) hHeld ?_
        rotate_left
        · intro w hSw; (try dsimp only at hSw); (try simp only [List.getElem_toArray, List.getElem_cons_succ, List.getElem_cons_zero]); (go_simp; try with_reducible rfl)
        try simp only [List.getElem_toArray, List.getElem_cons_succ, List.getElem_cons_zero, Act.put, List.setIfInBounds_toArray, List.set_cons_zero, List.set_cons_succ]
        refine wpAnyH_take (i := 2) (v := ?_) rfl (by kernel_rfl) (by kernel_rfl) (by kernel_rfl) (fun _ _ _ h => h) (Or.inl ⟨by rfl, ?_⟩) hHeld ?_
        rotate_left
        · intro w hSw; (try dsimp only at hSw); (try simp only [List.getElem_toArray, List.getElem_cons_succ, List.getElem_cons_zero]); (go_simp; try with_reducible rfl)
        try simp only [List.getElem_toArray, List.getElem_cons_succ, List.getElem_cons_zero, Act.put, List.setIfInBounds_toArray, List.set_cons_zero, List.set_cons_succ]
        refine wpAnyH_take (i := 3) (v := ?_) rfl (by kernel_rfl) (by kernel_rfl) (by kernel_rfl) (fun _ _ _ h => h) (Or.inl ⟨by rfl, ?_⟩) hHeld ?_
        rotate_left
        · intro w hSw; (try dsimp only at hSw); (try simp only [List.getElem_toArray, List.getElem_cons_succ, List.getElem_cons_zero]); (go_simp; try with_reducible rfl)
        try simp only [List.getElem_toArray, List.getElem_cons_succ, List.getElem_cons_zero, Act.put, List.setIfInBounds_toArray, List.set_cons_zero, List.set_cons_succ]
        refine wpAnyH_take (i := 4) (v := ?_) rfl (by kernel_rfl) (by kernel_rfl) (by kernel_rfl) (fun _ _ _ h => h) (Or.inl ⟨by rfl, ?_⟩) hHeld ?_
        rotate_left
        · intro w hSw; (try dsimp only at hSw); (try simp only [List.getElem_toArray, List.getElem_cons_succ, List.getElem_cons_zero]); (go_simp; try with_reducible rfl)
        try simp only [List.getElem_toArray, List.getElem_cons_succ, List.getElem_cons_zero, Act.put, List.setIfInBounds_toArray, List.set_cons_zero, List.set_cons_succ]
        refine wpAnyH_take (i := 5) (v := ?_) rfl (by kernel_rfl) (by kernel_rfl) (by kernel_rfl) (fun _ _ _ h => h) (Or.inl ⟨by rfl, ?_⟩) hHeld ?_
        rotate_left
        · intro w hSw; (try dsimp only at hSw); (try simp only [List.getElem_toArray, List.getElem_cons_succ, List.getElem_cons_zero]); (go_simp; try with_reducible rfl)
        try simp only [List.getElem_toArray, List.getElem_cons_succ, List.getElem_cons_zero, Act.put, List.setIfInBounds_toArray, List.set_cons_zero, List.set_cons_succ]
        refine wpAnyH_take (i := 6) (v := ?_) rfl (by kernel_rfl) (by kernel_rfl) (by kernel_rfl) (fun _ _ _ h => h) (Or.inl ⟨by rfl, ?_⟩) hHeld ?_
        rotate_left
        · intro w hSw; (try dsimp only at hSw); (try simp only [List.getElem_toArray, List.getElem_cons_succ, List.getElem_cons_zero]); (go_simp; try with_reducible rfl)
        try simp only [List.getElem_toArray, List.getElem_cons_succ, List.getElem_cons_zero, Act.put, List.setIfInBounds_toArray, List.set_cons_zero, List.set_cons_succ]
        refine wpAnyH_ready (rs := [1]) (by kernel_rfl) (by simp) ?_
        refine AllReadyH.cons rfl (fun K hK => ?_) AllReadyH.nil
        go_simp
        (refine Calls.mono (plen_any gw gp vp (Lc) _ hHeld.2.1) ?_; rintro e w' ⟨rfl, rfl⟩; have hb' := True.intro)
        refine hK.out _ _ hHeld (fun hNew => ?_)
        clear hK K hHeld hb'
        have hHeld := hNew
        clear hNew
        try simp only [List.getElem_toArray, List.getElem_cons_succ, List.getElem_cons_zero, Act.put, List.setIfInBounds_toArray, List.set_cons_zero, List.set_cons_succ]
        refine wpAnyH_take (i := 7) (v := ?_) rfl (by kernel_rfl) (by kernel_rfl) (by kernel_rfl) (fun _ _ _ h => h) (Or.inl ⟨by rfl, ?_⟩) hHeld ?_
        rotate_left
        · intro w hSw; (try dsimp only at hSw); (try simp only [List.getElem_toArray, List.getElem_cons_succ, List.getElem_cons_zero]); (go_simp; try with_reducible rfl)
        try simp only [List.getElem_toArray, List.getElem_cons_succ, List.getElem_cons_zero, Act.put, List.setIfInBounds_toArray, List.set_cons_zero, List.set_cons_succ]
        refine wpAnyH_done (by kernel_rfl) ?_ _
        have Q := Lib.hid hHeld
        clear hHeld F0 FA FB hcr
        go_wp2
        go_roundw
        case rel => exact ⟨k + 1, Lc, vp, _, by omega, by go_num, by first | omega | (simp; omega) | (rw [← hLF']; exact hFl), Q.out.1, Q.out.2.1, Q.out.2.2.1, FP.out⟩
        case measure => simp [intOf]; omega
      · obtain ⟨a9, c9, e9⟩ := QB.out.own.form
        subst e9
        have hcr := QB.out.cell
        have HK : Hid (Lc.length ≤ 500000000000) := Lib.hid (by omega)
        go_wp2_with fail
        refine wp_region_held_drew (S := fun w' => (Below gw w w' ∧ gw ≤ w'.heap.size) ∧ LOG w' gw gp vp Lc ∧ RLOG w' gw gr (.slice a9 Lc.length c9) Lc ∧ w'.cell? ⟨gr, 0, none⟩ = some (.slice a9 Lc.length c9)) (by kernel_rfl) ⟨⟨Q0.out.1.drew, Q0.out.2⟩, ⟨QA.out.head, QA.out.own, QA.out.base_le⟩, ⟨QB.out.head, QB.out.own, QB.out.base_le⟩, hcr⟩ (fun hHeld => ?_)
        refine wpAnyH_take (i := 0) (v := ?_) rfl (by kernel_rfl) (by kernel_rfl) (by kernel_rfl) (fun _ _ _ h => h) (Or.inl ⟨by rfl, ?_⟩) hHeld ?_
        rotate_left
        · intro w hSw; (try dsimp only at hSw); (try simp only [List.getElem_toArray, List.getElem_cons_succ, List.getElem_cons_zero]); (go_simp; try with_reducible rfl)
        try simp only [List.getElem_toArray, List.getElem_cons_succ, List.getElem_cons_zero, Act.put, List.setIfInBounds_toArray, List.set_cons_zero, List.set_cons_succ]
        refine wpAnyH_take (i := 2) (v := ?_) rfl (by kernel_rfl) (by kernel_rfl) (by kernel_rfl) (fun _ _ _ h => h) (Or.inl ⟨by rfl, ?_⟩) hHeld ?_
        rotate_left
        · intro w hSw; (try dsimp only at hSw); (try simp only [List.getElem_toArray, List.getElem_cons_succ, List.getElem_cons_zero]); (go_simp; try with_reducible rfl)
        try simp only [List.getElem_toArray, List.getElem_cons_succ, List.getElem_cons_zero, Act.put, List.setIfInBounds_toArray, List.set_cons_zero, List.set_cons_succ]
        refine wpAnyH_take (i := 3) (v := ?_) rfl (by kernel_rfl) (by kernel_rfl) (by kernel_rfl) (fun _ _ _ h => h) (Or.inl ⟨by rfl, ?_⟩) hHeld ?_
        rotate_left
        · intro w hSw; (try dsimp only at hSw); (try simp only [List.getElem_toArray, List.getElem_cons_succ, List.getElem_cons_zero]); (go_simp; try with_reducible rfl)
        try simp only [List.getElem_toArray, List.getElem_cons_succ, List.getElem_cons_zero, Act.put, List.setIfInBounds_toArray, List.set_cons_zero, List.set_cons_succ]
        refine wpAnyH_take (i := 4) (v := ?_) rfl (by kernel_rfl) (by kernel_rfl) (by kernel_rfl) (fun _ _ _ h => h) (Or.inl ⟨by rfl, ?_⟩) hHeld ?_
        rotate_left
        · intro w hSw; (try dsimp only at hSw); (try simp only [List.getElem_toArray, List.getElem_cons_succ, List.getElem_cons_zero]); (go_simp; try with_reducible rfl)
        try simp only [List.getElem_toArray, List.getElem_cons_succ, List.getElem_cons_zero, Act.put, List.setIfInBounds_toArray, List.set_cons_zero, List.set_cons_succ]
        refine wpAnyH_take (i := 5) (v := ?_) rfl (by kernel_rfl) (by kernel_rfl) (by kernel_rfl) (fun _ _ _ h => h) (Or.inl ⟨by rfl, ?_⟩) hHeld ?_
        rotate_left
        · intro w hSw; (try dsimp only at hSw); (try simp only [List.getElem_toArray, List.getElem_cons_succ, List.getElem_cons_zero]); (go_simp; try with_reducible rfl)
        try simp only [List.getElem_toArray, List.getElem_cons_succ, List.getElem_cons_zero, Act.put, List.setIfInBounds_toArray, List.set_cons_zero, List.set_cons_succ]
        refine wpAnyH_ready (rs := [1]) (by kernel_rfl) (by simp) ?_
        refine AllReadyH.cons rfl (fun K hK => ?_) AllReadyH.nil
        go_simp
        (refine Calls.mono (pevents_any gw gp vp Lc _ hHeld.2.1 HK.out) ?_; rintro e w' ⟨xo, rfl, hb', ho⟩; have h11 := Lib.hid ho.sl)
        refine hK.out _ _ ⟨⟨gbel hb' hHeld.1.1 hHeld.1.2, Nat.le_trans hHeld.1.2 hb'.size⟩, hHeld.2.1.keep hb', hHeld.2.2.1.keep hb', gcell hb' hHeld.2.2.2⟩ (fun hNew => ?_)
        clear hK K hHeld hb'
        have hHeld := hNew
        clear hNew
        try simp only [List.getElem_toArray, List.getElem_cons_succ, List.getElem_cons_zero, Act.put, List.setIfInBounds_toArray, List.set_cons_zero, List.set_cons_succ]
        refine wpAnyH_ready (rs := [6]) (by kernel_rfl) (by simp) ?_
        refine AllReadyH.cons rfl (fun K hK => ?_) AllReadyH.nil
        go_simp
        (refine Calls.mono (same_any xo _ _ _ h11.out hHeld.2.2.1.own.sl) ?_; rintro e w' ⟨rfl, hb'⟩)
        refine hK.out _ _ ⟨⟨gbel hb' hHeld.1.1 hHeld.1.2, Nat.le_trans hHeld.1.2 hb'.size⟩, hHeld.2.1.keep hb', hHeld.2.2.1.keep hb', gcell hb' hHeld.2.2.2⟩ (fun hNew => ?_)
        clear hK K hHeld hb'
        have hHeld := hNew
        clear hNew
        try simp only [List.getElem_toArray, List.getElem_cons_succ, List.getElem_cons_zero, Act.put, List.setIfInBounds_toArray, List.set_cons_zero, List.set_cons_succ]
        refine wpAnyH_take (i := 7) (v := ?_) rfl (by kernel_rfl) (by kernel_rfl) (by kernel_rfl) (fun _ _ _ h => h) (Or.inl ⟨by rfl, ?_⟩) hHeld ?_
        rotate_left
        · intro w hSw; (try dsimp only at hSw); (try simp only [List.getElem_toArray, List.getElem_cons_succ, List.getElem_cons_zero]); (go_simp; try with_reducible rfl)
        try simp only [List.getElem_toArray, List.getElem_cons_succ, List.getElem_cons_zero, Act.put, List.setIfInBounds_toArray, List.set_cons_zero, List.set_cons_succ]
        refine wpAnyH_done (by kernel_rfl) ?_ _
        have Q := Lib.hid hHeld.1.1
        clear hHeld Q0 QA QB QP hcr
        go_wp2
        go_ret
        first
          | exact ⟨rfl, Q.out⟩
          | exact ⟨rfl, Q.out.mono (Nat.le_of_eq hgw)⟩
  · have k1 := log_new w2 gw hgs2
    have k2 : RLOG ((w2.alloc (Obj.cells #[.slice none 0 0] 31)).alloc (Obj.cells #[.slice none 0 0] 29)) gw (w2.heap.size + 1) (.slice none 0 0) [] := ⟨by
      have := gblk_new (w2.alloc (Obj.cells #[.slice none 0 0] 31)) (Obj.cells #[.slice none 0 0] 29)
      rw [show (w2.alloc (Obj.cells #[.slice none 0 0] 31)).heap.size = w2.heap.size + 1 by simp] at this
      exact this, OwnEv.nil _ _, by omega⟩
    have kb0 : Below gw w ((w2.alloc (Obj.cells #[.slice none 0 0] 31)).alloc (Obj.cells #[.slice none 0 0] 29)) := (k0.out.alloc hgs2 (Obj.cells #[.slice none 0 0] 31)).alloc (by simp; omega) (Obj.cells #[.slice none 0 0] 29)
    have hs5 : ((w2.alloc (Obj.cells #[.slice none 0 0] 31)).alloc (Obj.cells #[.slice none 0 0] 29)).heap.size = w2.heap.size + 2 := by simp
    have KA0 := log_new ((w2.alloc (Obj.cells #[.slice none 0 0] 31)).alloc (Obj.cells #[.slice none 0 0] 29)) gw (by omega)
    have KB := Lib.hid (LogT.alloc k2 (Obj.cells #[.slice none 0 0] 31))
    have K0 := Lib.hid (kb0.alloc (by omega) (Obj.cells #[.slice none 0 0] 31))
    have hgs : gw ≤ (((w2.alloc (Obj.cells #[.slice none 0 0] 31)).alloc (Obj.cells #[.slice none 0 0] 29)).alloc (Obj.cells #[.slice none 0 0] 31)).heap.size := by
      have h1 : (((w2.alloc (Obj.cells #[.slice none 0 0] 31)).alloc (Obj.cells #[.slice none 0 0] 29)).alloc (Obj.cells #[.slice none 0 0] 31)).heap.size = ((w2.alloc (Obj.cells #[.slice none 0 0] 31)).alloc (Obj.cells #[.slice none 0 0] 29)).heap.size + 1 := by simp
      omega
    have hgg : w2.heap.size + 2 ≠ w2.heap.size + 1 := by omega
    rw [hs5] at KA0
    have KA := Lib.hid KA0
    clear k1 k2 kb0 KA0 hs5
    go_wp2_with fail
    generalize ((w2.alloc (Obj.cells #[.slice none 0 0] 31)).alloc (Obj.cells #[.slice none 0 0] 29)).alloc (Obj.cells #[.slice none 0 0] 31) = w5 at *
    obtain ⟨gr, hgr⟩ : ∃ gr, gr = w2.heap.size + 1 := ⟨_, rfl⟩
    obtain ⟨gp, hgp⟩ : ∃ gp, gp = w2.heap.size + 2 := ⟨_, rfl⟩
    try rw [show w2.heap.size + 1 + 1 = w2.heap.size + 2 from rfl]
    rw [← hgp] at KA hgg ⊢
    rw [← hgr] at KB hgg ⊢
    clear hgr hgp
    have KP : Hid (Apart gp (.slice none 0 0) gr (.slice none 0 0)) := Lib.hid fun k h1 h2 => by
      rcases h1 with rfl | h1
      · rcases h2 with h2 | h2
        · exact hgg h2
        · simp [Value.ownBlock] at h2
      · simp [Value.ownBlock] at h1
    clear hgg

    go_loopw [27] (fun i wr => ∃ (k : Nat) (Lc : List Ev) (vp vr : Value), k ≤ S.length ∧ i = .int .i64 k ∧ Lc.length ≤ k ∧ (Below gw w wr ∧ gw ≤ wr.heap.size) ∧ LOG wr gw gp vp Lc ∧ RLOG wr gw gr vr Lc ∧ Apart gp vp gr vr) (fun i _ => S.length - (intOf i).toNat)
    case atStart => exact ⟨0, [], _, _, by omega, rfl, by simp, ⟨K0.out, hgs⟩, KA.out, KB.out, KP.out⟩
    case round =>
      obtain ⟨k, Lc, vp, vr, hk, rfl, hLk, q0, qa, qb, qp⟩ := hrel
      have Q0 := Lib.hid q0
      have QA := Lib.hid qa
      have QB := Lib.hid qb
      have QP := Lib.hid qp
      clear q0 qa qb qp
      by_cases hlt : k < S.length
      · rcases HL.out with h0 | ⟨b, o, rfl, hbw, hrows⟩
        · rw [h0] at hlt; simp at hlt
        have hr := (hrows.keep (Q0.out.1.mono (Nat.le_of_eq hgw))) k hlt
        clear hrows
        generalize S[k].k = kk at *
        generalize S[k].e = e at *
        generalize S[k].v = v at *
        generalize S[k].u = u at *
        generalize S[k].n = n at *
        by_cases hk1 : kk = 1
        · subst hk1
          have hB := (Below.refl wr.heap.size wr).alloc (Nat.le_refl _) (Obj.cells (opP 1 e v u n) 41)
          have F0 : Hid (Below gw w (wr.alloc (Obj.cells (opP 1 e v u n) 41)) ∧ gw ≤ (wr.alloc (Obj.cells (opP 1 e v u n) 41)).heap.size) := Lib.hid ⟨gbel hB Q0.out.1 Q0.out.2, Nat.le_trans Q0.out.2 hB.size⟩
          have FA := Lib.hid (QA.out.keep hB)
          have FB := Lib.hid (QB.out.keep hB)
          have FP := QP
          have o8 := opAt_blk (gblk_new wr (Obj.cells (opP 1 e v u n) 41))
          have h8 : ∀ k, LogX gp vp k → ¬ k = wr.heap.size := fun k hx e => by have := log_lt QA.out k hx; omega
          have h9 : ∀ k, LogX gr vr k → ¬ k = wr.heap.size := fun k hx e => by have := log_lt QB.out k hx; omega
          have s1 := o8.ev
          rw [Nat.zero_add] at s1
          have s2 := o8.v
          rw [Nat.zero_add] at s2
          have s3 := o8.u
          rw [Nat.zero_add] at s3
          have s4 := o8.n
          rw [Nat.zero_add] at s4
          have hlo := blk_lt (gblk_new wr (Obj.cells (opP 1 e v u n) 41))
          clear hB Q0 QA QB QP o8
          go_wp2_with fail
          clear hr
          generalize wr.alloc (Obj.cells (opP 1 e v u n) 41) = w6 at *
          generalize wr.heap.size = g8 at *
          clear s2 s3 s4
          refine Calls.mono (padd_any gw gp vp Lc e w6 FA.out (by omega)) ?_
          rintro e9 w7 ⟨rfl, hF, vp', ka, hva⟩
          have hge := LogX.ge FA.out
          replace F0 : Hid (Below gw w w7 ∧ gw ≤ w7.heap.size) := Lib.hid ⟨hF.below (fun k hk => hge k hk) F0.out.2 F0.out.1, Nat.le_trans F0.out.2 hF.size⟩
          have FB0 := FB.out
          replace FB := Lib.hid (FB.out.fr hF (fun k h1 h2 => FP.out k h2 h1))
          replace FP := Lib.hid (FP.out.grow hva (log_lt FB0))
          replace FA := Lib.hid ka
          have s5 := hF.rowN (fun hx => h8 g8 hx rfl) s1
          have hlo2 := Nat.lt_of_lt_of_le hlo hF.size
          clear hF ka hge FB0 hva s1 hlo
          go_wp2_with fail
          refine wp_region_heldK (s := 11) (S := fun w' => blk w' gr = some (.cells #[vr] 29) ∧ w'.cell? ⟨gr, 0, none⟩ = some vr ∧ rowN 26 w' g8 1 = some (evA e)) (by kernel_rfl) ⟨FB.out.head, FB.out.cell, s5⟩ (fun hHeld => ?_)
          refine wpAnyC_take (i := 0) (v := ?_) rfl (by kernel_rfl) (by kernel_rfl) (by kernel_rfl) (by kernel_rfl) (by kernel_rfl) (by kernel_rfl) (fun _ _ _ h => h) (Or.inl ⟨by rfl, ?_⟩) hHeld ?_
          rotate_left
          · intro w hSw; (try dsimp only at hSw); (try simp only [List.getElem_toArray, List.getElem_cons_succ, List.getElem_cons_zero]); (go_simp; try with_reducible rfl)
          try simp only [List.getElem_toArray, List.getElem_cons_succ, List.getElem_cons_zero, Act.put, List.setIfInBounds_toArray, List.set_cons_zero, List.set_cons_succ]
          refine wpAnyC_take (i := 1) (v := ?_) rfl (by kernel_rfl) (by kernel_rfl) (by kernel_rfl) (by kernel_rfl) (by kernel_rfl) (by kernel_rfl) (fun _ _ _ h => h) (Or.inl ⟨by rfl, ?_⟩) hHeld ?_
          rotate_left
          · intro w hSw; (try dsimp only at hSw); (try simp only [List.getElem_toArray, List.getElem_cons_succ, List.getElem_cons_zero]); (go_simp; try with_reducible rfl)
          try simp only [List.getElem_toArray, List.getElem_cons_succ, List.getElem_cons_zero, Act.put, List.setIfInBounds_toArray, List.set_cons_zero, List.set_cons_succ]
          refine wpAnyC_take (i := 2) (v := ?_) rfl (by kernel_rfl) (by kernel_rfl) (by kernel_rfl) (by kernel_rfl) (by kernel_rfl) (by kernel_rfl) (fun _ _ _ h => h) (Or.inl ⟨by rfl, ?_⟩) hHeld ?_
          rotate_left
          · intro w hSw; (try dsimp only at hSw); (try simp only [List.getElem_toArray, List.getElem_cons_succ, List.getElem_cons_zero]); (go_simp; try with_reducible rfl)
          try simp only [List.getElem_toArray, List.getElem_cons_succ, List.getElem_cons_zero, Act.put, List.setIfInBounds_toArray, List.set_cons_zero, List.set_cons_succ]
          refine wpAnyC_take (i := 3) (v := ?_) rfl (by kernel_rfl) (by kernel_rfl) (by kernel_rfl) (by kernel_rfl) (by kernel_rfl) (by kernel_rfl) (fun _ _ _ h => h) (Or.inl ⟨by rfl, ?_⟩) hHeld ?_
          rotate_left
          · intro w hSw; (try dsimp only at hSw); (try simp only [List.getElem_toArray, List.getElem_cons_succ, List.getElem_cons_zero]); (go_simp; try with_reducible rfl)
          try simp only [List.getElem_toArray, List.getElem_cons_succ, List.getElem_cons_zero, Act.put, List.setIfInBounds_toArray, List.set_cons_zero, List.set_cons_succ]
          refine wpAnyC_take (i := 4) (v := ?_) rfl (by kernel_rfl) (by kernel_rfl) (by kernel_rfl) (by kernel_rfl) (by kernel_rfl) (by kernel_rfl) (fun _ _ _ h => h) (Or.inl ⟨by rfl, ?_⟩) hHeld ?_
          rotate_left
          · intro w hSw; (try dsimp only at hSw); (try simp only [List.getElem_toArray, List.getElem_cons_succ, List.getElem_cons_zero]); (go_simp; try with_reducible rfl)
          try simp only [List.getElem_toArray, List.getElem_cons_succ, List.getElem_cons_zero, Act.put, List.setIfInBounds_toArray, List.set_cons_zero, List.set_cons_succ]
          refine wpAnyC_take (i := 5) (v := ?_) rfl (by kernel_rfl) (by kernel_rfl) (by kernel_rfl) (by kernel_rfl) (by kernel_rfl) (by kernel_rfl) (fun _ _ _ h => h) (Or.inl ⟨by rfl, ?_⟩) hHeld ?_
          rotate_left
          · intro w hSw; (try dsimp only at hSw); (try simp only [List.getElem_toArray, List.getElem_cons_succ, List.getElem_cons_zero]); (go_simp; try with_reducible rfl)
          try simp only [List.getElem_toArray, List.getElem_cons_succ, List.getElem_cons_zero, Act.put, List.setIfInBounds_toArray, List.set_cons_zero, List.set_cons_succ]
          refine wpAnyC_take (i := 6) (v := ?_) rfl (by kernel_rfl) (by kernel_rfl) (by kernel_rfl) (by kernel_rfl) (by kernel_rfl) (by kernel_rfl) (fun _ _ _ h => h) (Or.inl ⟨by rfl, ?_⟩) hHeld ?_
          rotate_left
          · intro w hSw; (try dsimp only at hSw); (try simp only [List.getElem_toArray, List.getElem_cons_succ, List.getElem_cons_zero]); (go_simp; try with_reducible rfl)
          try simp only [List.getElem_toArray, List.getElem_cons_succ, List.getElem_cons_zero, Act.put, List.setIfInBounds_toArray, List.set_cons_zero, List.set_cons_succ]
          have G0 : Hid (Below gw w w7.drew ∧ gw ≤ w7.drew.heap.size) := Lib.hid ⟨F0.out.1.drew, F0.out.2⟩
          have GA : Hid (LOG w7.drew gw gp vp' (Lc ++ [e])) := Lib.hid ⟨FA.out.head, FA.out.own, FA.out.base_le⟩
          have GB : Hid (RLOG w7.drew gw gr vr Lc) := Lib.hid ⟨FB.out.head, FB.out.own, FB.out.base_le⟩
          have hlo3 : g8 < w7.drew.heap.size := hlo2
          clear F0 FA FB s5 hlo2
          generalize w7.drew = wz at hHeld G0 GA GB hlo3 ⊢
          refine wpAnyK_one (i := 7) (by kernel_rfl) rfl (fun K hK => ?_)
          (try simp only [List.getElem_toArray, List.getElem_cons_succ, List.getElem_cons_zero])
          go_simp
          have hB := (Below.refl wz.heap.size wz).alloc (Nat.le_refl _) (Obj.cells (evA e) 39)
          have hNew := And.intro (gblk hB hHeld.1) (And.intro (gcell hB hHeld.2.1) (rowN_keep hB hHeld.2.2))
          refine hK.out _ _ (Or.inr hNew) ?_
          clear hK K hHeld
          have hHeld := hNew; clear hNew
          try simp only [List.getElem_toArray, List.getElem_cons_succ, List.getElem_cons_zero, Act.put, List.setIfInBounds_toArray, List.set_cons_zero, List.set_cons_succ]
          have hS := EvSl.one wz e
          replace G0 : Hid (Below gw w (wz.alloc (Obj.cells (evA e) 39)) ∧ gw ≤ (wz.alloc (Obj.cells (evA e) 39)).heap.size) := Lib.hid ⟨gbel hB G0.out.1 G0.out.2, Nat.le_trans G0.out.2 hB.size⟩
          replace GA := Lib.hid (GA.out.keep hB)
          replace GB := Lib.hid (GB.out.keep hB)
          have hlo4 := Nat.lt_of_lt_of_le hlo3 hB.size
          clear hB hlo3
          generalize wz.alloc (Obj.cells (evA e) 39) = wy at hHeld hS G0 GA GB hlo4 ⊢
          refine wpAnyK_one (i := 8) (by kernel_rfl) rfl (fun K hK => ?_)
          refine append_step rfl _ _ rfl gw vr _ Lc [e] rfl rfl GB.out.own hS (by simp; omega) G0.out.2 ?_
          intro v1 wx O1 G1 T1
          have hng : vr.ownBlock ≠ some gr := GB.out.ne (by decide)
          have hFr := Fr.of_grown (X := fun k => some k = vr.ownBlock) G1 (fun k e => e)
          have hhr := hFr.blk (fun e => hng e.symm) GB.out.head
          have hrow := hFr.rowN (fun e => h9 g8 (.inr e) rfl) hHeld.2.2
          have J0 : Hid (Below gw w wx ∧ gw ≤ wx.heap.size) := Lib.hid ⟨hFr.below (fun k hk e => by have := (GB.out.own.lt k e.symm).1; omega) G0.out.2 G0.out.1, Nat.le_trans G0.out.2 hFr.size⟩
          have JA := Lib.hid (GA.out.fr hFr (fun k h1 h2 => FP.out k h1 (.inr h2)))
          have hbr := GB.out.base_le
          have hgy := GB.out.lt
          have hpl := log_lt GA.out
          have hNew := And.intro hhr (And.intro (cell_of_row wx gr 0 _ _ _ hhr) hrow)
          refine hK.out _ _ (Or.inr hNew) ?_
          clear hK K hHeld
          have hHeld := hNew; clear hNew
          try simp only [List.getElem_toArray, List.getElem_cons_succ, List.getElem_cons_zero, Act.put, List.setIfInBounds_toArray, List.set_cons_zero, List.set_cons_succ]
          refine wpAnyC_take (i := 9) (v := ?_) rfl (by kernel_rfl) (by kernel_rfl) (by kernel_rfl) (by kernel_rfl) (by kernel_rfl) (by kernel_rfl) (fun _ _ _ h => h) (Or.inl ⟨by rfl, ?_⟩) hHeld ?_
          rotate_left
          · intro w hSw; (try dsimp only at hSw); (try simp only [List.getElem_toArray, List.getElem_cons_succ, List.getElem_cons_zero]); (go_simp; try with_reducible rfl)
          try simp only [List.getElem_toArray, List.getElem_cons_succ, List.getElem_cons_zero, Act.put, List.setIfInBounds_toArray, List.set_cons_zero, List.set_cons_succ]
          refine wpAnyC_take (i := 10) (v := ?_) rfl (by kernel_rfl) (by kernel_rfl) (by kernel_rfl) (by kernel_rfl) (by kernel_rfl) (by kernel_rfl) (fun _ _ _ h => h) (Or.inl ⟨by rfl, ?_⟩) hHeld ?_
          rotate_left
          · intro w hSw; (try dsimp only at hSw); (try simp only [List.getElem_toArray, List.getElem_cons_succ, List.getElem_cons_zero]); (go_simp; try with_reducible rfl)
          try simp only [List.getElem_toArray, List.getElem_cons_succ, List.getElem_cons_zero, Act.put, List.setIfInBounds_toArray, List.set_cons_zero, List.set_cons_succ]
          obtain ⟨a1, cap1, rfl⟩ := O1.form
          have hf := frozen_of_row wx gr 0 _ _ hHeld.1
          refine wpAnyK_one (i := 11) (by kernel_rfl) rfl (fun K hK => ?_)
          (try simp only [List.getElem_toArray, List.getElem_cons_succ, List.getElem_cons_zero])
          go_simp
          refine hK.out _ _ (Or.inl (by kernel_rfl)) ?_
          clear hK K
          try simp only [List.getElem_toArray, List.getElem_cons_succ, List.getElem_cons_zero, Act.put, List.setIfInBounds_toArray, List.set_cons_zero, List.set_cons_succ]
          refine wpAnyK_done (by kernel_rfl) ?_ _
          have hne : (Value.slice a1 (Lc ++ [e]).length cap1).ownBlock ≠ some gr := fun e9 => by
            rcases T1 with h1 | h1
            · rw [h1] at e9; exact hng e9
            · rw [h1] at e9
              injection e9 with e9
              omega
          have KB := Lib.hid (LogT.put hhr O1 hne hbr)
          have hFs : Fr (fun k => k = gr) wx (wx.setCell ⟨gr, 0, none⟩ (Value.slice a1 (Lc ++ [e]).length cap1)) := Fr.setCell wx gr 0 _ rfl
          have FA := Lib.hid (JA.out.fr hFs (fun k h1 h2 => FP.out k h1 (.inl h2)))
          have F0 : Hid (Below gw w (wx.setCell ⟨gr, 0, none⟩ (Value.slice a1 (Lc ++ [e]).length cap1)) ∧ gw ≤ (wx.setCell ⟨gr, 0, none⟩ (Value.slice a1 (Lc ++ [e]).length cap1)).heap.size) := Lib.hid ⟨hFs.below (fun k hk e => by omega) J0.out.2 J0.out.1, Nat.le_trans J0.out.2 hFs.size⟩
          replace FP := Lib.hid (FP.out.symm.grow (va' := Value.slice a1 (Lc ++ [e]).length cap1) (n := wy.heap.size) (by
            rcases T1 with h1 | h1
            · exact .inl h1
            · exact .inr ⟨_, h1, Nat.le_refl _⟩) hpl).symm
          have FB := KB
          clear KB JA J0 GA GB G0 hHeld O1 G1 hFr hhr hrow hf hFs hpl hng hne T1 hlo4 h8 h9
          have hlen9 : (Lc ++ [e]).length = Lc.length + 1 := by simp
          rw [hlen9] at FA F0 FB FP
          generalize wx.setCell ⟨gr, 0, none⟩ (Value.slice a1 (Lc.length + 1) cap1) = wv at F0 FA FB ⊢
          
          have hcr := FB.out.cell
          go_wp2_with fail
          refine wp_region_held_drew (S := fun w' => (Below gw w w' ∧ gw ≤ w'.heap.size) ∧ LOG w' gw gp vp' (Lc ++ [e]) ∧ RLOG w' gw gr (.slice a1 (Lc.length + 1) cap1) (Lc ++ [e]) ∧ w'.cell? ⟨gr, 0, none⟩ = some (.slice a1 (Lc.length + 1) cap1)) (by kernel_rfl) ⟨⟨F0.out.1.drew, F0.out.2⟩, ⟨FA.out.head, FA.out.own, FA.out.base_le⟩, ⟨FB.out.head, FB.out.own, FB.out.base_le⟩, hcr⟩ (fun hHeld => ?_)
          refine wpAnyH_take (i := 0) (v := ?_) rfl (by kernel_rfl) (by kernel_rfl) (by kernel_rfl) (fun _ _ _ h => h) (Or.inl ⟨by rfl, ?_⟩) hHeld ?_
          rotate_left
          · intro w hSw; (try dsimp only at hSw); (try simp only [List.getElem_toArray, List.getElem_cons_succ, List.getElem_cons_zero]); (go_simp; try with_reducible rfl)
          try simp only [List.getElem_toArray, List.getElem_cons_succ, List.getElem_cons_zero, Act.put, List.setIfInBounds_toArray, List.set_cons_zero, List.set_cons_succ]
          refine wpAnyH_take (i := 2) (v := ?_) rfl (by kernel_rfl) (by kernel_rfl) (by kernel_rfl) (fun _ _ _ h => h) (Or.inl ⟨by rfl, ?_⟩) hHeld ?_
          rotate_left
          · intro w hSw; (try dsimp only at hSw); (try simp only [List.getElem_toArray, List.getElem_cons_succ, List.getElem_cons_zero]); (go_simp; try with_reducible rfl)
          try simp only [List.getElem_toArray, List.getElem_cons_succ, List.getElem_cons_zero, Act.put, List.setIfInBounds_toArray, List.set_cons_zero, List.set_cons_succ]
          refine wpAnyH_take (i := 3) (v := ?_) rfl (by kernel_rfl) (by kernel_rfl) (by kernel_rfl) (fun _ _ _ h => h) (Or.inl ⟨by rfl, ?_⟩) hHeld ?_
          rotate_left
          · intro w hSw; (try dsimp only at hSw); (try simp only [List.getElem_toArray, List.getElem_cons_succ, List.getElem_cons_zero]); (go_simp; try with_reducible rfl)
          try simp only [List.getElem_toArray, List.getElem_cons_succ, List.getElem_cons_zero, Act.put, List.setIfInBounds_toArray, List.set_cons_zero, List.set_cons_succ]
          refine wpAnyH_take (i := 4) (v := ?_) rfl (by kernel_rfl) (by kernel_rfl) (by kernel_rfl) (fun _ _ _ h => h) (Or.inl ⟨by rfl, ?_⟩) hHeld ?_
          rotate_left
          · intro w hSw; (try dsimp only at hSw); (try simp only [List.getElem_toArray, List.getElem_cons_succ, List.getElem_cons_zero]); (go_simp; try with_reducible rfl)
          try simp only [List.getElem_toArray, List.getElem_cons_succ, List.getElem_cons_zero, Act.put, List.setIfInBounds_toArray, List.set_cons_zero, List.set_cons_succ]
          refine wpAnyH_take (i := 5) (v := ?_) rfl (by kernel_rfl) (by kernel_rfl) (by kernel_rfl) (fun _ _ _ h => h) (Or.inl ⟨by rfl, ?_⟩) hHeld ?_
          rotate_left
          · intro w hSw; (try dsimp only at hSw); (try simp only [List.getElem_toArray, List.getElem_cons_succ, List.getElem_cons_zero]); (go_simp; try with_reducible rfl)
          try simp only [List.getElem_toArray, List.getElem_cons_succ, List.getElem_cons_zero, Act.put, List.setIfInBounds_toArray, List.set_cons_zero, List.set_cons_succ]
          refine wpAnyH_take (i := 6) (v := ?_) rfl (by kernel_rfl) (by kernel_rfl) (by kernel_rfl) (fun _ _ _ h => h) (Or.inl ⟨by rfl, ?_⟩) hHeld ?_
          rotate_left
          · intro w hSw; (try dsimp only at hSw); (try simp only [List.getElem_toArray, List.getElem_cons_succ, List.getElem_cons_zero]); (go_simp; try with_reducible rfl)
          try simp only [List.getElem_toArray, List.getElem_cons_succ, List.getElem_cons_zero, Act.put, List.setIfInBounds_toArray, List.set_cons_zero, List.set_cons_succ]
          refine wpAnyH_ready (rs := [1]) (by kernel_rfl) (by simp) ?_
          refine AllReadyH.cons rfl (fun K hK => ?_) AllReadyH.nil
          go_simp
          (refine Calls.mono (plen_any gw gp vp' ((Lc ++ [e])) _ hHeld.2.1) ?_; rintro e w' ⟨rfl, rfl⟩; have hb' := True.intro)
          refine hK.out _ _ hHeld (fun hNew => ?_)
          clear hK K hHeld hb'
          have hHeld := hNew
          clear hNew
          try simp only [List.getElem_toArray, List.getElem_cons_succ, List.getElem_cons_zero, Act.put, List.setIfInBounds_toArray, List.set_cons_zero, List.set_cons_succ]
          refine wpAnyH_take (i := 7) (v := ?_) rfl (by kernel_rfl) (by kernel_rfl) (by kernel_rfl) (fun _ _ _ h => h) (Or.inl ⟨by rfl, ?_⟩) hHeld ?_
          rotate_left
          · intro w hSw; (try dsimp only at hSw); (try simp only [List.getElem_toArray, List.getElem_cons_succ, List.getElem_cons_zero]); (go_simp; try with_reducible rfl)
          try simp only [List.getElem_toArray, List.getElem_cons_succ, List.getElem_cons_zero, Act.put, List.setIfInBounds_toArray, List.set_cons_zero, List.set_cons_succ]
          refine wpAnyH_done (by kernel_rfl) ?_ _
          have Q := Lib.hid hHeld
          clear hHeld F0 FA FB hcr
          go_wp2
          go_roundw
          case rel => exact ⟨k + 1, (Lc ++ [e]), vp', _, by omega, by go_num, by first | omega | (simp; omega) | (rw [← hLF']; exact hFl), Q.out.1, Q.out.2.1, Q.out.2.2.1, FP.out⟩
          case measure => simp [intOf]; omega
        by_cases hk2 : kk = 2
        · subst hk2
          have hB := (Below.refl wr.heap.size wr).alloc (Nat.le_refl _) (Obj.cells (opP 2 e v u n) 41)
          have F0 : Hid (Below gw w (wr.alloc (Obj.cells (opP 2 e v u n) 41)) ∧ gw ≤ (wr.alloc (Obj.cells (opP 2 e v u n) 41)).heap.size) := Lib.hid ⟨gbel hB Q0.out.1 Q0.out.2, Nat.le_trans Q0.out.2 hB.size⟩
          have FA := Lib.hid (QA.out.keep hB)
          have FB := Lib.hid (QB.out.keep hB)
          have FP := QP
          have o8 := opAt_blk (gblk_new wr (Obj.cells (opP 2 e v u n) 41))
          have h8 : ∀ k, LogX gp vp k → ¬ k = wr.heap.size := fun k hx e => by have := log_lt QA.out k hx; omega
          have h9 : ∀ k, LogX gr vr k → ¬ k = wr.heap.size := fun k hx e => by have := log_lt QB.out k hx; omega
          have s1 := o8.ev
          rw [Nat.zero_add] at s1
          have s2 := o8.v
          rw [Nat.zero_add] at s2
          have s3 := o8.u
          rw [Nat.zero_add] at s3
          have s4 := o8.n
          rw [Nat.zero_add] at s4
          have hlo := blk_lt (gblk_new wr (Obj.cells (opP 2 e v u n) 41))
          clear hB Q0 QA QB QP o8
          have r4 := FB.out.cell
          go_wp2_with fail
          clear hr
          generalize wr.alloc (Obj.cells (opP 2 e v u n) 41) = w6 at *
          generalize wr.heap.size = g8 at *
          refine wp_region_held_drew (S := fun w' => (Below gw w w' ∧ gw ≤ w'.heap.size) ∧ LOG w' gw gp vp Lc ∧ RLOG w' gw gr vr Lc ∧ rowN 16 w' g8 27 = some (vv v) ∧ rowN 16 w' g8 43 = some (vv u) ∧ w'.cell? ⟨g8, 59, none⟩ = some (.int .i64 n)) (by kernel_rfl) ⟨⟨F0.out.1.drew, F0.out.2⟩, ⟨FA.out.head, FA.out.own, FA.out.base_le⟩, ⟨FB.out.head, FB.out.own, FB.out.base_le⟩, s2, s3, s4⟩ (fun hHeld => ?_)
          refine wpAnyH_take (i := 0) (v := ?_) rfl (by kernel_rfl) (by kernel_rfl) (by kernel_rfl) (fun _ _ _ h => h) (Or.inl ⟨by rfl, ?_⟩) hHeld ?_
          rotate_left
          · intro w hSw; (try dsimp only at hSw); (try simp only [List.getElem_toArray, List.getElem_cons_succ, List.getElem_cons_zero]); (go_simp; try with_reducible rfl)
          try simp only [List.getElem_toArray, List.getElem_cons_succ, List.getElem_cons_zero, Act.put, List.setIfInBounds_toArray, List.set_cons_zero, List.set_cons_succ]
          refine wpAnyH_take (i := 1) (v := ?_) rfl (by kernel_rfl) (by kernel_rfl) (by kernel_rfl) (fun _ _ _ h => h) (Or.inl ⟨by rfl, ?_⟩) hHeld ?_
          rotate_left
          · intro w hSw; (try dsimp only at hSw); (try simp only [List.getElem_toArray, List.getElem_cons_succ, List.getElem_cons_zero]); (go_simp; try with_reducible rfl)
          try simp only [List.getElem_toArray, List.getElem_cons_succ, List.getElem_cons_zero, Act.put, List.setIfInBounds_toArray, List.set_cons_zero, List.set_cons_succ]
          refine wpAnyH_take (i := 2) (v := ?_) rfl (by kernel_rfl) (by kernel_rfl) (by kernel_rfl) (fun _ _ _ h => h) (Or.inl ⟨by rfl, ?_⟩) hHeld ?_
          rotate_left
          · intro w hSw; (try dsimp only at hSw); (try simp only [List.getElem_toArray, List.getElem_cons_succ, List.getElem_cons_zero]); (go_simp; try with_reducible rfl)
          try simp only [List.getElem_toArray, List.getElem_cons_succ, List.getElem_cons_zero, Act.put, List.setIfInBounds_toArray, List.set_cons_zero, List.set_cons_succ]
          refine wpAnyH_take (i := 3) (v := ?_) rfl (by kernel_rfl) (by kernel_rfl) (by kernel_rfl) (fun _ _ _ h => h) (Or.inl ⟨by rfl, ?_⟩) hHeld ?_
          rotate_left
          · intro w hSw; (try dsimp only at hSw); (try simp only [List.getElem_toArray, List.getElem_cons_succ, List.getElem_cons_zero]); (go_simp; try with_reducible rfl)
          try simp only [List.getElem_toArray, List.getElem_cons_succ, List.getElem_cons_zero, Act.put, List.setIfInBounds_toArray, List.set_cons_zero, List.set_cons_succ]
          refine wpAnyH_take (i := 4) (v := ?_) rfl (by kernel_rfl) (by kernel_rfl) (by kernel_rfl) (fun _ _ _ h => h) (Or.inl ⟨by rfl, ?_⟩) hHeld ?_
          rotate_left
          · intro w hSw; (try dsimp only at hSw); (try simp only [List.getElem_toArray, List.getElem_cons_succ, List.getElem_cons_zero]); (go_simp; try with_reducible rfl)
          try simp only [List.getElem_toArray, List.getElem_cons_succ, List.getElem_cons_zero, Act.put, List.setIfInBounds_toArray, List.set_cons_zero, List.set_cons_succ]
          refine wpAnyH_take (i := 5) (v := ?_) rfl (by kernel_rfl) (by kernel_rfl) (by kernel_rfl) (fun _ _ _ h => h) (Or.inl ⟨by rfl, ?_⟩) hHeld ?_
          rotate_left
          · intro w hSw; (try dsimp only at hSw); (try simp only [List.getElem_toArray, List.getElem_cons_succ, List.getElem_cons_zero]); (go_simp; try with_reducible rfl)
          try simp only [List.getElem_toArray, List.getElem_cons_succ, List.getElem_cons_zero, Act.put, List.setIfInBounds_toArray, List.set_cons_zero, List.set_cons_succ]
          refine wpAnyH_take (i := 6) (v := ?_) rfl (by kernel_rfl) (by kernel_rfl) (by kernel_rfl) (fun _ _ _ h => h) (Or.inl ⟨by rfl, ?_⟩) hHeld ?_
          rotate_left
          · intro w hSw; (try dsimp only at hSw); (try simp only [List.getElem_toArray, List.getElem_cons_succ, List.getElem_cons_zero]); (go_simp; try with_reducible rfl)
          try simp only [List.getElem_toArray, List.getElem_cons_succ, List.getElem_cons_zero, Act.put, List.setIfInBounds_toArray, List.set_cons_zero, List.set_cons_succ]
          refine wpAnyH_take (i := 8) (v := ?_) rfl (by kernel_rfl) (by kernel_rfl) (by kernel_rfl) (fun _ _ _ h => h) (Or.inl ⟨by rfl, ?_⟩) hHeld ?_
          rotate_left
          · intro w hSw; (try dsimp only at hSw); (try simp only [List.getElem_toArray, List.getElem_cons_succ, List.getElem_cons_zero]); (go_simp; try with_reducible rfl)
          try simp only [List.getElem_toArray, List.getElem_cons_succ, List.getElem_cons_zero, Act.put, List.setIfInBounds_toArray, List.set_cons_zero, List.set_cons_succ]
          refine wpAnyH_take (i := 9) (v := ?_) rfl (by kernel_rfl) (by kernel_rfl) (by kernel_rfl) (fun _ _ _ h => h) (Or.inl ⟨by rfl, ?_⟩) hHeld ?_
          rotate_left
          · intro w hSw; (try dsimp only at hSw); (try simp only [List.getElem_toArray, List.getElem_cons_succ, List.getElem_cons_zero]); (go_simp; try with_reducible rfl)
          try simp only [List.getElem_toArray, List.getElem_cons_succ, List.getElem_cons_zero, Act.put, List.setIfInBounds_toArray, List.set_cons_zero, List.set_cons_succ]
          refine wpAnyH_take (i := 10) (v := ?_) rfl (by kernel_rfl) (by kernel_rfl) (by kernel_rfl) (fun _ _ _ h => h) (Or.inl ⟨by rfl, ?_⟩) hHeld ?_
          rotate_left
          · intro w hSw; (try dsimp only at hSw); (try simp only [List.getElem_toArray, List.getElem_cons_succ, List.getElem_cons_zero]); (go_simp; try with_reducible rfl)
          try simp only [List.getElem_toArray, List.getElem_cons_succ, List.getElem_cons_zero, Act.put, List.setIfInBounds_toArray, List.set_cons_zero, List.set_cons_succ]
          refine wpAnyH_take (i := 11) (v := ?_) rfl (by kernel_rfl) (by kernel_rfl) (by kernel_rfl) (fun _ _ _ h => h) (Or.inl ⟨by rfl, ?_⟩) hHeld ?_
          rotate_left
          · intro w hSw; (try dsimp only at hSw); (try simp only [List.getElem_toArray, List.getElem_cons_succ, List.getElem_cons_zero]); (go_simp; try with_reducible rfl)
          try simp only [List.getElem_toArray, List.getElem_cons_succ, List.getElem_cons_zero, Act.put, List.setIfInBounds_toArray, List.set_cons_zero, List.set_cons_succ]
          refine wpAnyH_take (i := 12) (v := ?_) rfl (by kernel_rfl) (by kernel_rfl) (by kernel_rfl) (fun _ _ _ h => h) (Or.inl ⟨by rfl, ?_⟩) hHeld ?_
          rotate_left
          · intro w hSw; (try dsimp only at hSw); (try simp only [List.getElem_toArray, List.getElem_cons_succ, List.getElem_cons_zero]); (go_simp; try with_reducible rfl)
          try simp only [List.getElem_toArray, List.getElem_cons_succ, List.getElem_cons_zero, Act.put, List.setIfInBounds_toArray, List.set_cons_zero, List.set_cons_succ]
          refine wpAnyH_take (i := 13) (v := ?_) rfl (by kernel_rfl) (by kernel_rfl) (by kernel_rfl) (fun _ _ _ h => h) (Or.inl ⟨by rfl, ?_⟩) hHeld ?_
          rotate_left
          · intro w hSw; (try dsimp only at hSw); (try simp only [List.getElem_toArray, List.getElem_cons_succ, List.getElem_cons_zero]); (go_simp; try with_reducible rfl)
          try simp only [List.getElem_toArray, List.getElem_cons_succ, List.getElem_cons_zero, Act.put, List.setIfInBounds_toArray, List.set_cons_zero, List.set_cons_succ]
          refine wpAnyH_take (i := 14) (v := ?_) rfl (by kernel_rfl) (by kernel_rfl) (by kernel_rfl) (fun _ _ _ h => h) (Or.inl ⟨by rfl, ?_⟩) hHeld ?_
          rotate_left
          · intro w hSw; (try dsimp only at hSw); (try simp only [List.getElem_toArray, List.getElem_cons_succ, List.getElem_cons_zero]); (go_simp; try with_reducible rfl)
          try simp only [List.getElem_toArray, List.getElem_cons_succ, List.getElem_cons_zero, Act.put, List.setIfInBounds_toArray, List.set_cons_zero, List.set_cons_succ]
          refine wpAnyH_ready (rs := [7]) (by kernel_rfl) (by simp) ?_
          refine AllReadyH.cons rfl (fun K hK => ?_) AllReadyH.nil
          go_simp
          (refine Calls.mono (for_any gw gp vp Lc v u n _ hHeld.2.1 (by omega)) ?_; rintro e w' ⟨xo, rfl, hb', ho⟩; have h11 := Lib.hid ho.sl)
          refine hK.out _ _ ⟨⟨gbel hb' hHeld.1.1 hHeld.1.2, Nat.le_trans hHeld.1.2 hb'.size⟩, hHeld.2.1.keep hb', hHeld.2.2.1.keep hb', rowN_keep hb' hHeld.2.2.2.1, rowN_keep hb' hHeld.2.2.2.2.1, gcell hb' hHeld.2.2.2.2.2⟩ (fun hNew => ?_)
          clear hK K hHeld hb'
          have hHeld := hNew
          clear hNew
          try simp only [List.getElem_toArray, List.getElem_cons_succ, List.getElem_cons_zero, Act.put, List.setIfInBounds_toArray, List.set_cons_zero, List.set_cons_succ]
          refine wpAnyH_ready (rs := [15]) (by kernel_rfl) (by simp) ?_
          refine AllReadyH.cons rfl (fun K hK => ?_) AllReadyH.nil
          go_simp
          (refine Calls.mono (rfor_any gw gr vr Lc v u n _ hHeld.2.2.1 (by omega)) ?_; rintro e w' ⟨xa, rfl, hb', hoa⟩; replace h11 := Lib.hid (h11.out.keep hb'); have h12 := Lib.hid hoa.sl)
          refine hK.out _ _ ⟨⟨gbel hb' hHeld.1.1 hHeld.1.2, Nat.le_trans hHeld.1.2 hb'.size⟩, hHeld.2.1.keep hb', hHeld.2.2.1.keep hb', rowN_keep hb' hHeld.2.2.2.1, rowN_keep hb' hHeld.2.2.2.2.1, gcell hb' hHeld.2.2.2.2.2⟩ (fun hNew => ?_)
          clear hK K hHeld hb'
          have hHeld := hNew
          clear hNew
          try simp only [List.getElem_toArray, List.getElem_cons_succ, List.getElem_cons_zero, Act.put, List.setIfInBounds_toArray, List.set_cons_zero, List.set_cons_succ]
          refine wpAnyH_ready (rs := [16]) (by kernel_rfl) (by simp) ?_
          refine AllReadyH.cons rfl (fun K hK => ?_) AllReadyH.nil
          go_simp
          (refine Calls.mono (same_any xo xa _ _ h11.out h12.out) ?_; rintro e w' ⟨rfl, hb'⟩)
          refine hK.out _ _ ⟨⟨gbel hb' hHeld.1.1 hHeld.1.2, Nat.le_trans hHeld.1.2 hb'.size⟩, hHeld.2.1.keep hb', hHeld.2.2.1.keep hb', rowN_keep hb' hHeld.2.2.2.1, rowN_keep hb' hHeld.2.2.2.2.1, gcell hb' hHeld.2.2.2.2.2⟩ (fun hNew => ?_)
          clear hK K hHeld hb'
          have hHeld := hNew
          clear hNew
          try simp only [List.getElem_toArray, List.getElem_cons_succ, List.getElem_cons_zero, Act.put, List.setIfInBounds_toArray, List.set_cons_zero, List.set_cons_succ]
          refine wpAnyH_take (i := 17) (v := ?_) rfl (by kernel_rfl) (by kernel_rfl) (by kernel_rfl) (fun _ _ _ h => h) (Or.inl ⟨by rfl, ?_⟩) hHeld ?_
          rotate_left
          · intro w hSw; (try dsimp only at hSw); (try simp only [List.getElem_toArray, List.getElem_cons_succ, List.getElem_cons_zero]); (go_simp; try with_reducible rfl)
          try simp only [List.getElem_toArray, List.getElem_cons_succ, List.getElem_cons_zero, Act.put, List.setIfInBounds_toArray, List.set_cons_zero, List.set_cons_succ]
          refine wpAnyH_done (by kernel_rfl) ?_ _
          replace F0 := Lib.hid hHeld.1
          replace FA := Lib.hid hHeld.2.1
          replace FB := Lib.hid hHeld.2.2.1
          clear hHeld s1 s2 s3 s4 r4 h8 h9 ho hoa h11 h12 hlo
          obtain ⟨a9, c9, e9⟩ := FB.out.own.form
          subst e9
          have hcr := FB.out.cell
          go_wp2_with fail
          refine wp_region_held_drew (S := fun w' => (Below gw w w' ∧ gw ≤ w'.heap.size) ∧ LOG w' gw gp vp Lc ∧ RLOG w' gw gr (.slice a9 (Lc).length c9) Lc ∧ w'.cell? ⟨gr, 0, none⟩ = some (.slice a9 (Lc).length c9)) (by kernel_rfl) ⟨⟨F0.out.1.drew, F0.out.2⟩, ⟨FA.out.head, FA.out.own, FA.out.base_le⟩, ⟨FB.out.head, FB.out.own, FB.out.base_le⟩, hcr⟩ (fun hHeld => ?_)
          refine wpAnyH_take (i := 0) (v := ?_) rfl (by kernel_rfl) (by kernel_rfl) (by kernel_rfl) (fun _ _ _ h => h) (Or.inl ⟨by rfl, ?_⟩) hHeld ?_
          rotate_left
          · intro w hSw; (try dsimp only at hSw); (try simp only [List.getElem_toArray, List.getElem_cons_succ, List.getElem_cons_zero]); (go_simp; try with_reducible rfl)
          try simp only [List.getElem_toArray, List.getElem_cons_succ, List.getElem_cons_zero, Act.put, List.setIfInBounds_toArray, List.set_cons_zero, List.set_cons_succ]
          refine wpAnyH_take (i := 2) (v := ?_) rfl (by kernel_rfl) (by kernel_rfl) (by kernel_rfl) (fun _ _ _ h => h) (Or.inl ⟨by rfl, ?_⟩) hHeld ?_
          rotate_left
          · intro w hSw; (try dsimp only at hSw); (try simp only [List.getElem_toArray, List.getElem_cons_succ, List.getElem_cons_zero]); (go_simp; try with_reducible rfl)
          try simp only [List.getElem_toArray, List.getElem_cons_succ, List.getElem_cons_zero, Act.put, List.setIfInBounds_toArray, List.set_cons_zero, List.set_cons_succ]
          refine wpAnyH_take (i := 3) (v := ?_) rfl (by kernel_rfl) (by kernel_rfl) (by kernel_rfl) (fun _ _ _ h => h) (Or.inl ⟨by rfl, ?_⟩) hHeld ?_
          rotate_left
          · intro w hSw; (try dsimp only at hSw); (try simp only [List.getElem_toArray, List.getElem_cons_succ, List.getElem_cons_zero]); (go_simp; try with_reducible rfl)
          try simp only [List.getElem_toArray, List.getElem_cons_succ, List.getElem_cons_zero, Act.put, List.setIfInBounds_toArray, List.set_cons_zero, List.set_cons_succ]
          refine wpAnyH_take (i := 4) (v := ?_) rfl (by kernel_rfl) (by kernel_rfl) (by kernel_rfl) (fun _ _ _ h => h) (Or.inl ⟨by rfl, ?_⟩) hHeld ?_
          rotate_left
          · intro w hSw; (try dsimp only at hSw); (try simp only [List.getElem_toArray, List.getElem_cons_succ, List.getElem_cons_zero]); (go_simp; try with_reducible rfl)
          try simp only [List.getElem_toArray, List.getElem_cons_succ, List.getElem_cons_zero, Act.put, List.setIfInBounds_toArray, List.set_cons_zero, List.set_cons_succ]
          refine wpAnyH_take (i := 5) (v := ?_) rfl (by kernel_rfl) (by kernel_rfl) (by kernel_rfl) (fun _ _ _ h => h) (Or.inl ⟨by rfl, ?_⟩) hHeld ?_
          rotate_left
          · intro w hSw; (try dsimp only at hSw); (try simp only [List.getElem_toArray, List.getElem_cons_succ, List.getElem_cons_zero]); (go_simp; try with_reducible rfl)
          try simp only [List.getElem_toArray, List.getElem_cons_succ, List.getElem_cons_zero, Act.put, List.setIfInBounds_toArray, List.set_cons_zero, List.set_cons_succ]
          refine wpAnyH_take (i := 6) (v := ?_) rfl (by kernel_rfl) (by kernel_rfl) (by kernel_rfl) (fun _ _ _ h => h) (Or.inl ⟨by rfl, ?_⟩) hHeld ?_
          rotate_left
          · intro w hSw; (try dsimp only at hSw); (try simp only [List.getElem_toArray, List.getElem_cons_succ, List.getElem_cons_zero]); (go_simp; try with_reducible rfl)
          try simp only [List.getElem_toArray, List.getElem_cons_succ, List.getElem_cons_zero, Act.put, List.setIfInBounds_toArray, List.set_cons_zero, List.set_cons_succ]
          refine wpAnyH_ready (rs := [1]) (by kernel_rfl) (by simp) ?_
          refine AllReadyH.cons rfl (fun K hK => ?_) AllReadyH.nil
          go_simp
          (refine Calls.mono (plen_any gw gp vp (Lc) _ hHeld.2.1) ?_; rintro e w' ⟨rfl, rfl⟩; have hb' := True.intro)
          refine hK.out _ _ hHeld (fun hNew => ?_)
          clear hK K hHeld hb'
          have hHeld := hNew
          clear hNew
          try simp only [List.getElem_toArray, List.getElem_cons_succ, List.getElem_cons_zero, Act.put, List.setIfInBounds_toArray, List.set_cons_zero, List.set_cons_succ]
          refine wpAnyH_take (i := 7) (v := ?_) rfl (by kernel_rfl) (by kernel_rfl) (by kernel_rfl) (fun _ _ _ h => h) (Or.inl ⟨by rfl, ?_⟩) hHeld ?_
          rotate_left
          · intro w hSw; (try dsimp only at hSw); (try simp only [List.getElem_toArray, List.getElem_cons_succ, List.getElem_cons_zero]); (go_simp; try with_reducible rfl)
          try simp only [List.getElem_toArray, List.getElem_cons_succ, List.getElem_cons_zero, Act.put, List.setIfInBounds_toArray, List.set_cons_zero, List.set_cons_succ]
          refine wpAnyH_done (by kernel_rfl) ?_ _
          have Q := Lib.hid hHeld
          clear hHeld F0 FA FB hcr
          go_wp2
          go_roundw
          case rel => exact ⟨k + 1, Lc, vp, _, by omega, by go_num, by first | omega | (simp; omega) | (rw [← hLF']; exact hFl), Q.out.1, Q.out.2.1, Q.out.2.2.1, FP.out⟩
          case measure => simp [intOf]; omega
        by_cases hk3 : kk = 3
        · subst hk3
          have hB := (Below.refl wr.heap.size wr).alloc (Nat.le_refl _) (Obj.cells (opP 3 e v u n) 41)
          have F0 : Hid (Below gw w (wr.alloc (Obj.cells (opP 3 e v u n) 41)) ∧ gw ≤ (wr.alloc (Obj.cells (opP 3 e v u n) 41)).heap.size) := Lib.hid ⟨gbel hB Q0.out.1 Q0.out.2, Nat.le_trans Q0.out.2 hB.size⟩
          have FA := Lib.hid (QA.out.keep hB)
          have FB := Lib.hid (QB.out.keep hB)
          have FP := QP
          have o8 := opAt_blk (gblk_new wr (Obj.cells (opP 3 e v u n) 41))
          have h8 : ∀ k, LogX gp vp k → ¬ k = wr.heap.size := fun k hx e => by have := log_lt QA.out k hx; omega
          have h9 : ∀ k, LogX gr vr k → ¬ k = wr.heap.size := fun k hx e => by have := log_lt QB.out k hx; omega
          have s1 := o8.ev
          rw [Nat.zero_add] at s1
          have s2 := o8.v
          rw [Nat.zero_add] at s2
          have s3 := o8.u
          rw [Nat.zero_add] at s3
          have s4 := o8.n
          rw [Nat.zero_add] at s4
          have hlo := blk_lt (gblk_new wr (Obj.cells (opP 3 e v u n) 41))
          clear hB Q0 QA QB QP o8
          go_wp2_with fail
          clear hr
          generalize wr.alloc (Obj.cells (opP 3 e v u n) 41) = w6 at *
          generalize wr.heap.size = g8 at *
          have hFl : (Lc.filter (keptB v)).length ≤ Lc.length := List.length_filter_le _ _
          have hgrn : ∀ k, k < gw → ¬ k = gr := fun k hk e => by have := FB.out.base_le; omega
          have hg8r : ¬ g8 = gr := fun e => h9 g8 (.inl e) rfl
          have GA : Hid (LOG w6.drew gw gp vp Lc) := Lib.hid ⟨FA.out.head, FA.out.own, FA.out.base_le⟩
          have GB : Hid (RLOG w6.drew gw gr vr Lc) := Lib.hid ⟨FB.out.head, FB.out.own, FB.out.base_le⟩
          refine wp_region_held_drew (S := fun w' => (Below gw w w' ∧ gw ≤ w'.heap.size) ∧ rowN 16 w' g8 27 = some (vv v)) (by kernel_rfl) ⟨⟨F0.out.1.drew, F0.out.2⟩, s2⟩ (fun hHeld => ?_)
          refine wpAnyH_take (i := 0) (v := ?_) rfl (by kernel_rfl) (by kernel_rfl) (by kernel_rfl) (fun _ _ _ h => h) (Or.inl ⟨by rfl, ?_⟩) hHeld ?_
          rotate_left
          · intro w hSw; (try dsimp only at hSw); (try simp only [List.getElem_toArray, List.getElem_cons_succ, List.getElem_cons_zero]); (go_simp; try with_reducible rfl)
          try simp only [List.getElem_toArray, List.getElem_cons_succ, List.getElem_cons_zero, Act.put, List.setIfInBounds_toArray, List.set_cons_zero, List.set_cons_succ]
          refine wpAnyH_take (i := 1) (v := ?_) rfl (by kernel_rfl) (by kernel_rfl) (by kernel_rfl) (fun _ _ _ h => h) (Or.inl ⟨by rfl, ?_⟩) hHeld ?_
          rotate_left
          · intro w hSw; (try dsimp only at hSw); (try simp only [List.getElem_toArray, List.getElem_cons_succ, List.getElem_cons_zero]); (go_simp; try with_reducible rfl)
          try simp only [List.getElem_toArray, List.getElem_cons_succ, List.getElem_cons_zero, Act.put, List.setIfInBounds_toArray, List.set_cons_zero, List.set_cons_succ]
          refine wpAnyH_take (i := 2) (v := ?_) rfl (by kernel_rfl) (by kernel_rfl) (by kernel_rfl) (fun _ _ _ h => h) (Or.inl ⟨by rfl, ?_⟩) hHeld ?_
          rotate_left
          · intro w hSw; (try dsimp only at hSw); (try simp only [List.getElem_toArray, List.getElem_cons_succ, List.getElem_cons_zero]); (go_simp; try with_reducible rfl)
          try simp only [List.getElem_toArray, List.getElem_cons_succ, List.getElem_cons_zero, Act.put, List.setIfInBounds_toArray, List.set_cons_zero, List.set_cons_succ]
          refine wpAnyH_take (i := 4) (v := ?_) rfl (by kernel_rfl) (by kernel_rfl) (by kernel_rfl) (fun _ _ _ h => h) (Or.inl ⟨by rfl, ?_⟩) hHeld ?_
          rotate_left
          · intro w hSw; (try dsimp only at hSw); (try simp only [List.getElem_toArray, List.getElem_cons_succ, List.getElem_cons_zero]); (go_simp; try with_reducible rfl)
          try simp only [List.getElem_toArray, List.getElem_cons_succ, List.getElem_cons_zero, Act.put, List.setIfInBounds_toArray, List.set_cons_zero, List.set_cons_succ]
          refine wpAnyH_take (i := 5) (v := ?_) rfl (by kernel_rfl) (by kernel_rfl) (by kernel_rfl) (fun _ _ _ h => h) (Or.inl ⟨by rfl, ?_⟩) hHeld ?_
          rotate_left
          · intro w hSw; (try dsimp only at hSw); (try simp only [List.getElem_toArray, List.getElem_cons_succ, List.getElem_cons_zero]); (go_simp; try with_reducible rfl)
          try simp only [List.getElem_toArray, List.getElem_cons_succ, List.getElem_cons_zero, Act.put, List.setIfInBounds_toArray, List.set_cons_zero, List.set_cons_succ]
          refine wpAnyH_take (i := 6) (v := ?_) rfl (by kernel_rfl) (by kernel_rfl) (by kernel_rfl) (fun _ _ _ h => h) (Or.inl ⟨by rfl, ?_⟩) hHeld ?_
          rotate_left
          · intro w hSw; (try dsimp only at hSw); (try simp only [List.getElem_toArray, List.getElem_cons_succ, List.getElem_cons_zero]); (go_simp; try with_reducible rfl)
          try simp only [List.getElem_toArray, List.getElem_cons_succ, List.getElem_cons_zero, Act.put, List.setIfInBounds_toArray, List.set_cons_zero, List.set_cons_succ]
          refine wpAnyH_ready (rs := [3]) (by kernel_rfl) (by simp) ?_
          refine AllReadyH.cons rfl (fun K hK => ?_) AllReadyH.nil
          go_simp
          (refine Calls.mono (trim_any gw gp vp Lc v _ GA.out (by omega)) ?_; rintro e w' ⟨rfl, hF, vp', ka, hva⟩; have hb' := True.intro; have hge := LogX.ge GA.out; have FB0 := GB.out; replace GB := Lib.hid (GB.out.fr hF (fun k h1 h2 => FP.out k h2 h1)); replace FP := Lib.hid (FP.out.grow (.inl hva) (log_lt FB0)); have hS : (Below gw w w' ∧ gw ≤ w'.heap.size) ∧ rowN 16 w' g8 27 = some (vv v) := ⟨⟨hF.below (fun k hk => hge k hk) hHeld.1.2 hHeld.1.1, Nat.le_trans hHeld.1.2 hF.size⟩, hF.rowN (fun hx => h8 g8 hx rfl) hHeld.2⟩; replace GA := Lib.hid ka)
          refine hK.out _ _ hS (fun hNew => ?_)
          clear hK K hHeld hb'
          have hHeld := hNew
          clear hNew
          try simp only [List.getElem_toArray, List.getElem_cons_succ, List.getElem_cons_zero, Act.put, List.setIfInBounds_toArray, List.set_cons_zero, List.set_cons_succ]
          refine wpAnyH_ready (rs := [7]) (by kernel_rfl) (by simp) ?_
          refine AllReadyH.cons rfl (fun K hK => ?_) AllReadyH.nil
          go_simp
          (refine Calls.mono (rtrim_any gw gr vr Lc v _ GB.out (by omega)) ?_; rintro e w2' ⟨rfl, hF2, vr', kb, hvb⟩; have hb' := True.intro; have FA0 := log_lt GA.out; replace GA := Lib.hid (GA.out.fr hF2 (fun k h1 h2 => FP.out k h1 (.inl h2))); have FP2 : Hid (Apart gp vp' gr vr') := Lib.hid (fun k h1 h2 => by rcases h2 with h2 | h2; exact FP.out k h1 (.inl h2); have z1 := hvb k h2.symm; have z2 := FA0 k h1; omega); have hS : (Below gw w w2' ∧ gw ≤ w2'.heap.size) ∧ rowN 16 w2' g8 27 = some (vv v) := ⟨⟨hF2.below (fun k hk => hgrn k hk) hHeld.1.2 hHeld.1.1, Nat.le_trans hHeld.1.2 hF2.size⟩, hF2.rowN hg8r hHeld.2⟩; replace GB := Lib.hid kb)
          refine hK.out _ _ hS (fun hNew => ?_)
          clear hK K hHeld hb'
          have hHeld := hNew
          clear hNew
          try simp only [List.getElem_toArray, List.getElem_cons_succ, List.getElem_cons_zero, Act.put, List.setIfInBounds_toArray, List.set_cons_zero, List.set_cons_succ]
          refine wpAnyH_take (i := 8) (v := ?_) rfl (by kernel_rfl) (by kernel_rfl) (by kernel_rfl) (fun _ _ _ h => h) (Or.inl ⟨by rfl, ?_⟩) hHeld ?_
          rotate_left
          · intro w hSw; (try dsimp only at hSw); (try simp only [List.getElem_toArray, List.getElem_cons_succ, List.getElem_cons_zero]); (go_simp; try with_reducible rfl)
          try simp only [List.getElem_toArray, List.getElem_cons_succ, List.getElem_cons_zero, Act.put, List.setIfInBounds_toArray, List.set_cons_zero, List.set_cons_succ]
          refine wpAnyH_done (by kernel_rfl) ?_ _
          replace F0 := Lib.hid hHeld.1
          replace FA := GA
          replace FB := GB
          replace FP := FP2
          clear hHeld s1 s2 s3 s4 h8 h9 hlo hS FP2 GA GB hF hF2 ka kb hge FB0 FA0 hgrn hva hvb
          generalize hLF' : Lc.filter (keptB v) = LF at *
          obtain ⟨a9, c9, e9⟩ := FB.out.own.form
          subst e9
          have hcr := FB.out.cell
          go_wp2_with fail
          refine wp_region_held_drew (S := fun w' => (Below gw w w' ∧ gw ≤ w'.heap.size) ∧ LOG w' gw gp vp' LF ∧ RLOG w' gw gr (.slice a9 (LF).length c9) LF ∧ w'.cell? ⟨gr, 0, none⟩ = some (.slice a9 (LF).length c9)) (by kernel_rfl) ⟨⟨F0.out.1.drew, F0.out.2⟩, ⟨FA.out.head, FA.out.own, FA.out.base_le⟩, ⟨FB.out.head, FB.out.own, FB.out.base_le⟩, hcr⟩ (fun hHeld => ?_)
          refine wpAnyH_take (i := 0) (v := ?_) rfl (by kernel_rfl) (by kernel_rfl) (by kernel_rfl) (fun _ _ _ h => h) (Or.inl ⟨by rfl, ?_⟩) hHeld ?_
          rotate_left
          · intro w hSw; (try dsimp only at hSw); (try simp only [List.getElem_toArray, List.getElem_cons_succ, List.getElem_cons_zero]); (go_simp; try with_reducible rfl)
          try simp only [List.getElem_toArray, List.getElem_cons_succ, List.getElem_cons_zero, Act.put, List.setIfInBounds_toArray, List.set_cons_zero, List.set_cons_succ]
          refine wpAnyH_take (i := 2) (v := ?_) rfl (by kernel_rfl) (by kernel_rfl) (by kernel_rfl) (fun _ _ _ h => h) (Or.inl ⟨by rfl, ?_⟩) hHeld ?_
          rotate_left
          · intro w hSw; (try dsimp only at hSw); (try simp only [List.getElem_toArray, List.getElem_cons_succ, List.getElem_cons_zero]); (go_simp; try with_reducible rfl)
          try simp only [List.getElem_toArray, List.getElem_cons_succ, List.getElem_cons_zero, Act.put, List.setIfInBounds_toArray, List.set_cons_zero, List.set_cons_succ]
          refine wpAnyH_take (i := 3) (v := ?_) rfl (by kernel_rfl) (by kernel_rfl) (by kernel_rfl) (fun _ _ _ h => h) (Or.inl ⟨by rfl, ?_⟩) hHeld ?_
          rotate_left
          · intro w hSw; (try dsimp only at hSw); (try simp only [List.getElem_toArray, List.getElem_cons_succ, List.getElem_cons_zero]); (go_simp; try with_reducible rfl)
          try simp only [List.getElem_toArray, List.getElem_cons_succ, List.getElem_cons_zero, Act.put, List.setIfInBounds_toArray, List.set_cons_zero, List.set_cons_succ]
          refine wpAnyH_take (i := 4) (v := ?_) rfl (by kernel_rfl) (by kernel_rfl) (by kernel_rfl) (fun _ _ _ h => h) (Or.inl ⟨by rfl, ?_⟩) hHeld ?_
          rotate_left
          · intro w hSw; (try dsimp only at hSw); (try simp only [List.getElem_toArray, List.getElem_cons_succ, List.getElem_cons_zero]); (go_simp; try with_reducible rfl)
          try simp only [List.getElem_toArray, List.getElem_cons_succ, List.getElem_cons_zero, Act.put, List.setIfInBounds_toArray, List.set_cons_zero, List.set_cons_succ]
          refine wpAnyH_take (i := 5) (v := ?_) rfl (by kernel_rfl) (by kernel_rfl) (by kernel_rfl) (fun _ _ _ h => h) (Or.inl ⟨by rfl, ?_⟩) hHeld ?_
          rotate_left
          · intro w hSw; (try dsimp only at hSw); (try simp only [List.getElem_toArray, List.getElem_cons_succ, List.getElem_cons_zero]); (go_simp; try with_reducible rfl)
          try simp only [List.getElem_toArray, List.getElem_cons_succ, List.getElem_cons_zero, Act.put, List.setIfInBounds_toArray, List.set_cons_zero, List.set_cons_succ]
          refine wpAnyH_take (i := 6) (v := ?_) rfl (by kernel_rfl) (by kernel_rfl) (by kernel_rfl) (fun _ _ _ h => h) (Or.inl ⟨by rfl, ?_⟩) hHeld ?_
          rotate_left
          · intro w hSw; (try dsimp only at hSw); (try simp only [List.getElem_toArray, List.getElem_cons_succ, List.getElem_cons_zero]); (go_simp; try with_reducible rfl)
          try simp only [List.getElem_toArray, List.getElem_cons_succ, List.getElem_cons_zero, Act.put, List.setIfInBounds_toArray, List.set_cons_zero, List.set_cons_succ]
          refine wpAnyH_ready (rs := [1]) (by kernel_rfl) (by simp) ?_
          refine AllReadyH.cons rfl (fun K hK => ?_) AllReadyH.nil
          go_simp
          (refine Calls.mono (plen_any gw gp vp' (LF) _ hHeld.2.1) ?_; rintro e w' ⟨rfl, rfl⟩; have hb' := True.intro)
          refine hK.out _ _ hHeld (fun hNew => ?_)
          clear hK K hHeld hb'
          have hHeld := hNew
          clear hNew
          try simp only [List.getElem_toArray, List.getElem_cons_succ, List.getElem_cons_zero, Act.put, List.setIfInBounds_toArray, List.set_cons_zero, List.set_cons_succ]
          refine wpAnyH_take (i := 7) (v := ?_) rfl (by kernel_rfl) (by kernel_rfl) (by kernel_rfl) (fun _ _ _ h => h) (Or.inl ⟨by rfl, ?_⟩) hHeld ?_
          rotate_left
          · intro w hSw; (try dsimp only at hSw); (try simp only [List.getElem_toArray, List.getElem_cons_succ, List.getElem_cons_zero]); (go_simp; try with_reducible rfl)
          try simp only [List.getElem_toArray, List.getElem_cons_succ, List.getElem_cons_zero, Act.put, List.setIfInBounds_toArray, List.set_cons_zero, List.set_cons_succ]
          refine wpAnyH_done (by kernel_rfl) ?_ _
          have Q := Lib.hid hHeld
          clear hHeld F0 FA FB hcr
          go_wp2
          go_roundw
          case rel => exact ⟨k + 1, LF, vp', _, by omega, by go_num, by first | omega | (simp; omega) | (rw [← hLF']; exact hFl), Q.out.1, Q.out.2.1, Q.out.2.2.1, FP.out⟩
          case measure => simp [intOf]; omega
        have hB := (Below.refl wr.heap.size wr).alloc (Nat.le_refl _) (Obj.cells (opP kk e v u n) 41)
        have F0 : Hid (Below gw w (wr.alloc (Obj.cells (opP kk e v u n) 41)) ∧ gw ≤ (wr.alloc (Obj.cells (opP kk e v u n) 41)).heap.size) := Lib.hid ⟨gbel hB Q0.out.1 Q0.out.2, Nat.le_trans Q0.out.2 hB.size⟩
        have FA := Lib.hid (QA.out.keep hB)
        have FB := Lib.hid (QB.out.keep hB)
        have FP := QP
        have o8 := opAt_blk (gblk_new wr (Obj.cells (opP kk e v u n) 41))
        have h8 : ∀ k, LogX gp vp k → ¬ k = wr.heap.size := fun k hx e => by have := log_lt QA.out k hx; omega
        have h9 : ∀ k, LogX gr vr k → ¬ k = wr.heap.size := fun k hx e => by have := log_lt QB.out k hx; omega
        have s1 := o8.ev
        rw [Nat.zero_add] at s1
        have s2 := o8.v
        rw [Nat.zero_add] at s2
        have s3 := o8.u
        rw [Nat.zero_add] at s3
        have s4 := o8.n
        rw [Nat.zero_add] at s4
        have hlo := blk_lt (gblk_new wr (Obj.cells (opP kk e v u n) 41))
        clear hB Q0 QA QB QP o8
        have hk1' : (kk == 1) = false := by simp [hk1]
        have hk2' : (kk == 2) = false := by simp [hk2]
        have hk3' : (kk == 3) = false := by simp [hk3]
        obtain ⟨a9, c9, e9⟩ := FB.out.own.form
        subst e9
        have hcr := FB.out.cell
        go_wp2_with fail
        clear hr
        generalize wr.alloc (Obj.cells (opP kk e v u n) 41) = w6 at *
        generalize wr.heap.size = g8 at *
        clear s1 s2 s3 s4 h8 h9 hlo
        refine wp_region_held_drew (S := fun w' => (Below gw w w' ∧ gw ≤ w'.heap.size) ∧ LOG w' gw gp vp Lc ∧ RLOG w' gw gr (.slice a9 (Lc).length c9) Lc ∧ w'.cell? ⟨gr, 0, none⟩ = some (.slice a9 (Lc).length c9)) (by kernel_rfl) ⟨⟨F0.out.1.drew, F0.out.2⟩, ⟨FA.out.head, FA.out.own, FA.out.base_le⟩, ⟨FB.out.head, FB.out.own, FB.out.base_le⟩, hcr⟩ (fun hHeld => ?_)
        refine wpAnyH_take (i := 0) (v := ?_) rfl (by kernel_rfl) (by kernel_rfl) (by kernel_rfl) (fun _ _ _ h => h) (Or.inl ⟨by rfl, ?_⟩) hHeld ?_
        rotate_left
        · intro w hSw; (try dsimp only at hSw); (try simp only [List.getElem_toArray, List.getElem_cons_succ, List.getElem_cons_zero]); (go_simp; try with_reducible rfl)
        try simp only [List.getElem_toArray, List.getElem_cons_succ, List.getElem_cons_zero, Act.put, List.setIfInBounds_toArray, List.set_cons_zero, List.set_cons_succ]
        refine wpAnyH_take (i := 2) (v := ?_) rfl (by kernel_rfl) (by kernel_rfl) (by kernel_rfl) (fun _ _ _ h => h) (Or.inl ⟨by rfl, ?_⟩) hHeld ?_
        rotate_left
        · intro w hSw; (try dsimp only at hSw); (try simp only [List.getElem_toArray, List.getElem_cons_succ, List.getElem_cons_zero]); (go_simp; try with_reducible rfl)
        try simp only [List.getElem_toArray, List.getElem_cons_succ, List.getElem_cons_zero, Act.put, List.setIfInBounds_toArray, List.set_cons_zero, List.set_cons_succ]
        refine wpAnyH_take (i := 3) (v := ?_) rfl (by kernel_rfl) (by kernel_rfl) (by kernel_rfl) (fun _ _ _ h => h) (Or.inl ⟨by rfl, ?_⟩) hHeld ?_
        rotate_left
        · intro w hSw; (try dsimp only at hSw); (try simp only [List.getElem_toArray, List.getElem_cons_succ, List.getElem_cons_zero]); (go_simp; try with_reducible rfl)
        try simp only [List.getElem_toArray, List.getElem_cons_succ, List.getElem_cons_zero, Act.put, List.setIfInBounds_toArray, List.set_cons_zero, List.set_cons_succ]
        refine wpAnyH_take (i := 4) (v := ?_) rfl (by kernel_rfl) (by kernel_rfl) (by kernel_rfl) (fun _ _ _ h => h) (Or.inl ⟨by rfl, ?_⟩) hHeld ?_
        rotate_left
        · intro w hSw; (try dsimp only at hSw); (try simp only [List.getElem_toArray, List.getElem_cons_succ, List.getElem_cons_zero]); (go_simp; try with_reducible rfl)
        try simp only [List.getElem_toArray, List.getElem_cons_succ, List.getElem_cons_zero, Act.put, List.setIfInBounds_toArray, List.set_cons_zero, List.set_cons_succ]
        refine wpAnyH_take (i := 5) (v := ?_) rfl (by kernel_rfl) (by kernel_rfl) (by kernel_rfl) (fun _ _ _ h => h) (Or.inl ⟨by rfl, ?_⟩) hHeld ?_
        rotate_left
        · intro w hSw; (try dsimp only at hSw); (try simp only [List.getElem_toArray, List.getElem_cons_succ, List.getElem_cons_zero]); (go_simp; try with_reducible rfl)
        try simp only [List.getElem_toArray, List.getElem_cons_succ, List.getElem_cons_zero, Act.put, List.setIfInBounds_toArray, List.set_cons_zero, List.set_cons_succ]
        refine wpAnyH_take (i := 6) (v := ?_) rfl (by kernel_rfl) (by kernel_rfl) (by kernel_rfl) (fun _ _ _ h => h) (Or.inl ⟨by rfl, ?_⟩) hHeld ?_
        rotate_left
        · intro w hSw; (try dsimp only at hSw); (try simp only [List.getElem_toArray, List.getElem_cons_succ, List.getElem_cons_zero]); (go_simp; try with_reducible rfl)
        try simp only [List.getElem_toArray, List.getElem_cons_succ, List.getElem_cons_zero, Act.put, List.setIfInBounds_toArray, List.set_cons_zero, List.set_cons_succ]
        refine wpAnyH_ready (rs := [1]) (by kernel_rfl) (by simp) ?_
        refine AllReadyH.cons rfl (fun K hK => ?_) AllReadyH.nil
        go_simp
        (refine Calls.mono (plen_any gw gp vp (Lc) _ hHeld.2.1) ?_; rintro e w' ⟨rfl, rfl⟩; have hb' := True.intro)
        refine hK.out _ _ hHeld (fun hNew => ?_)
        clear hK K hHeld hb'
        have hHeld := hNew
        clear hNew
        try simp only [List.getElem_toArray, List.getElem_cons_succ, List.getElem_cons_zero, Act.put, List.setIfInBounds_toArray, List.set_cons_zero, List.set_cons_succ]
        refine wpAnyH_take (i := 7) (v := ?_) rfl (by kernel_rfl) (by kernel_rfl) (by kernel_rfl) (fun _ _ _ h => h) (Or.inl ⟨by rfl, ?_⟩) hHeld ?_
        rotate_left
        · intro w hSw; (try dsimp only at hSw); (try simp only [List.getElem_toArray, List.getElem_cons_succ, List.getElem_cons_zero]); (go_simp; try with_reducible rfl)
        try simp only [List.getElem_toArray, List.getElem_cons_succ, List.getElem_cons_zero, Act.put, List.setIfInBounds_toArray, List.set_cons_zero, List.set_cons_succ]
        refine wpAnyH_done (by kernel_rfl) ?_ _
        have Q := Lib.hid hHeld
        clear hHeld F0 FA FB hcr
        go_wp2
        go_roundw
        case rel => exact ⟨k + 1, Lc, vp, _, by omega, by go_num, by first | omega | (simp; omega) | (rw [← hLF']; exact hFl), Q.out.1, Q.out.2.1, Q.out.2.2.1, FP.out⟩
        case measure => simp [intOf]; omega
      · obtain ⟨a9, c9, e9⟩ := QB.out.own.form
        subst e9
        have hcr := QB.out.cell
        have HK : Hid (Lc.length ≤ 500000000000) := Lib.hid (by omega)
        go_wp2_with fail
        refine wp_region_held_drew (S := fun w' => (Below gw w w' ∧ gw ≤ w'.heap.size) ∧ LOG w' gw gp vp Lc ∧ RLOG w' gw gr (.slice a9 Lc.length c9) Lc ∧ w'.cell? ⟨gr, 0, none⟩ = some (.slice a9 Lc.length c9)) (by kernel_rfl) ⟨⟨Q0.out.1.drew, Q0.out.2⟩, ⟨QA.out.head, QA.out.own, QA.out.base_le⟩, ⟨QB.out.head, QB.out.own, QB.out.base_le⟩, hcr⟩ (fun hHeld => ?_)
        refine wpAnyH_take (i := 0) (v := ?_) rfl (by kernel_rfl) (by kernel_rfl) (by kernel_rfl) (fun _ _ _ h => h) (Or.inl ⟨by rfl, ?_⟩) hHeld ?_
        rotate_left
        · intro w hSw; (try dsimp only at hSw); (try simp only [List.getElem_toArray, List.getElem_cons_succ, List.getElem_cons_zero]); (go_simp; try with_reducible rfl)
        try simp only [List.getElem_toArray, List.getElem_cons_succ, List.getElem_cons_zero, Act.put, List.setIfInBounds_toArray, List.set_cons_zero, List.set_cons_succ]
        refine wpAnyH_take (i := 2) (v := ?_) rfl (by kernel_rfl) (by kernel_rfl) (by kernel_rfl) (fun _ _ _ h => h) (Or.inl ⟨by rfl, ?_⟩) hHeld ?_
        rotate_left
        · intro w hSw; (try dsimp only at hSw); (try simp only [List.getElem_toArray, List.getElem_cons_succ, List.getElem_cons_zero]); (go_simp; try with_reducible rfl)
        try simp only [List.getElem_toArray, List.getElem_cons_succ, List.getElem_cons_zero, Act.put, List.setIfInBounds_toArray, List.set_cons_zero, List.set_cons_succ]
        refine wpAnyH_take (i := 3) (v := ?_) rfl (by kernel_rfl) (by kernel_rfl) (by kernel_rfl) (fun _ _ _ h => h) (Or.inl ⟨by rfl, ?_⟩) hHeld ?_
        rotate_left
        · intro w hSw; (try dsimp only at hSw); (try simp only [List.getElem_toArray, List.getElem_cons_succ, List.getElem_cons_zero]); (go_simp; try with_reducible rfl)
        try simp only [List.getElem_toArray, List.getElem_cons_succ, List.getElem_cons_zero, Act.put, List.setIfInBounds_toArray, List.set_cons_zero, List.set_cons_succ]
        refine wpAnyH_take (i := 4) (v := ?_) rfl (by kernel_rfl) (by kernel_rfl) (by kernel_rfl) (fun _ _ _ h => h) (Or.inl ⟨by rfl, ?_⟩) hHeld ?_
        rotate_left
        · intro w hSw; (try dsimp only at hSw); (try simp only [List.getElem_toArray, List.getElem_cons_succ, List.getElem_cons_zero]); (go_simp; try with_reducible rfl)
        try simp only [List.getElem_toArray, List.getElem_cons_succ, List.getElem_cons_zero, Act.put, List.setIfInBounds_toArray, List.set_cons_zero, List.set_cons_succ]
        refine wpAnyH_take (i := 5) (v := ?_) rfl (by kernel_rfl) (by kernel_rfl) (by kernel_rfl) (fun _ _ _ h => h) (Or.inl ⟨by rfl, ?_⟩) hHeld ?_
        rotate_left
        · intro w hSw; (try dsimp only at hSw); (try simp only [List.getElem_toArray, List.getElem_cons_succ, List.getElem_cons_zero]); (go_simp; try with_reducible rfl)
        try simp only [List.getElem_toArray, List.getElem_cons_succ, List.getElem_cons_zero, Act.put, List.setIfInBounds_toArray, List.set_cons_zero, List.set_cons_succ]
        refine wpAnyH_ready (rs := [1]) (by kernel_rfl) (by simp) ?_
        refine AllReadyH.cons rfl (fun K hK => ?_) AllReadyH.nil
        go_simp
        (refine Calls.mono (pevents_any gw gp vp Lc _ hHeld.2.1 HK.out) ?_; rintro e w' ⟨xo, rfl, hb', ho⟩; have h11 := Lib.hid ho.sl)
        refine hK.out _ _ ⟨⟨gbel hb' hHeld.1.1 hHeld.1.2, Nat.le_trans hHeld.1.2 hb'.size⟩, hHeld.2.1.keep hb', hHeld.2.2.1.keep hb', gcell hb' hHeld.2.2.2⟩ (fun hNew => ?_)
        clear hK K hHeld hb'
        have hHeld := hNew
        clear hNew
        try simp only [List.getElem_toArray, List.getElem_cons_succ, List.getElem_cons_zero, Act.put, List.setIfInBounds_toArray, List.set_cons_zero, List.set_cons_succ]
        refine wpAnyH_ready (rs := [6]) (by kernel_rfl) (by simp) ?_
        refine AllReadyH.cons rfl (fun K hK => ?_) AllReadyH.nil
        go_simp
        (refine Calls.mono (same_any xo _ _ _ h11.out hHeld.2.2.1.own.sl) ?_; rintro e w' ⟨rfl, hb'⟩)
        refine hK.out _ _ ⟨⟨gbel hb' hHeld.1.1 hHeld.1.2, Nat.le_trans hHeld.1.2 hb'.size⟩, hHeld.2.1.keep hb', hHeld.2.2.1.keep hb', gcell hb' hHeld.2.2.2⟩ (fun hNew => ?_)
        clear hK K hHeld hb'
        have hHeld := hNew
        clear hNew
        try simp only [List.getElem_toArray, List.getElem_cons_succ, List.getElem_cons_zero, Act.put, List.setIfInBounds_toArray, List.set_cons_zero, List.set_cons_succ]
        refine wpAnyH_take (i := 7) (v := ?_) rfl (by kernel_rfl) (by kernel_rfl) (by kernel_rfl) (fun _ _ _ h => h) (Or.inl ⟨by rfl, ?_⟩) hHeld ?_
        rotate_left
        · intro w hSw; (try dsimp only at hSw); (try simp only [List.getElem_toArray, List.getElem_cons_succ, List.getElem_cons_zero]); (go_simp; try with_reducible rfl)
        try simp only [List.getElem_toArray, List.getElem_cons_succ, List.getElem_cons_zero, Act.put, List.setIfInBounds_toArray, List.set_cons_zero, List.set_cons_succ]
        refine wpAnyH_done (by kernel_rfl) ?_ _
        have Q := Lib.hid hHeld.1.1
        clear hHeld Q0 QA QB QP hcr
        go_wp2
        go_ret
        first
          | exact ⟨rfl, Q.out⟩
          | exact ⟨rfl, Q.out.mono (Nat.le_of_eq hgw)⟩

theorem walk (a : Option Addr) (len cap : Nat) (z : Bool) (w : World) (hl : len ≤ cap) (hm : cap ≤ maxLen) (hr : RowsIn [.int .i64, .int .i64, .int .i64, .int .i64, .int .i64, .int .i64, .int .i64, .int .i64, .int .i64, .int .i64, .int .i64, .int .i64, .int .i64, .int .i64, .int .i64, .int .i64, .int .i64, .int .i64, .int .i64, .int .i64, .int .i64, .string, .string, .string, .int .i64, .int .i64, .int .i64, .int .i64, .int .i64, .int .i64, .int .i64, .int .i64, .int .i64, .int .i64, .int .i64, .int .i64, .int .i64, .int .i64, .int .i64, .int .i64, .int .i64, .int .i64, .int .i64, .int .i64, .int .i64, .int .i64, .int .i64, .int .i64, .int .i64, .int .i64, .int .i64, .int .i64, .int .i64, .int .i64, .int .i64, .int .i64, .int .i64, .int .i64, .int .i64, .int .i64] w a len) :
    Calls Try.prog 3 #[.slice a len cap, .bool z] w fun e w' => e = .returned (.bool true) ∧ Below w.heap.size w w' := by
  obtain ⟨S, rfl, hL⟩ := script_of hr
  exact walk_op a cap S z w hL

end Go.Proofs.Ytpdckjfkkiameaa.peerPlays
