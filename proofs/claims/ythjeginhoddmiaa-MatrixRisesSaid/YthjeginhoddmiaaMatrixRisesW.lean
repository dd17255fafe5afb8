/- The walk of polyphonylaw19.MatrixRises: it returns true, and what was there is as it was. No conditions. -/
import Derived.Test.YthjeginhoddmiaaMxAwake
import Derived.Test.YthjeginhoddmiaaMxOp
import Derived.Test.YthjeginhoddmiaaMxPlain
import Derived.Test.YthjeginhoddmiaaMxWhole
import Derived.Test.YthjeginhoddmiaaMxRise
import Derived.Test.YthjeginhoddmiaaRefJoin
import Derived.Test.YthjeginhoddmiaaRefMost
import Derived.Test.YthjeginhoddmiaaHeldC
namespace Go.Proofs.Ythjeginhoddmiaa.matrixRises
open Go.RowKit
attribute [local go_sem] bmax2_int bmin2_int bmax_two bmin_two blk_alloc blk_setRow blk_setCell blk_drew blk_drewN alloc_setRow cell_setRow_ne drew_setRow drewN_setRow fold_z0 vv_size vv_get vv_set
attribute [local go_sem ↓] exec_load_vv exec_store_vv exec_index_vv exec_eql_vv exec_neq_vv
attribute [local go_sem] loadVV_at storeVV_at indexVV_at eqVV_eql eqVV_neq ne_r2 ne_l2 ne_r3 ne_l3 ne_r4 ne_l4 ne_r5 ne_l5 ne_r6 ne_l6 ne_r7 ne_l7 ne_r8 ne_l8
set_option linter.unusedVariables false
set_option linter.unusedSimpArgs false
attribute [local go_sem] mxA_size rowM_mx putM_mx loadVV_mx storeVV_mx buildMX_int
attribute [local go_sem ↓] exec_build_mx exec_build_mx0
attribute [local go_sem] loadVV_op rowN_drew

theorem later {T G : Prop} (main : Hid T → G) (cont : T) : G := main (Lib.hid cont)
theorem gbel {W W' w0 : World} {B : Nat} (h : Below W.heap.size W W') (hb : Below B w0 W) (hB : B ≤ W.heap.size) : Below B w0 W' := hb.trans (h.mono hB)
set_option maxRecDepth 100000 in
set_option maxHeartbeats 4000000 in
theorem walk_op (n : Int) (a : Option Addr) (cap : Nat) (L : List (Int × (Nat → Int))) (s : Nat → Int) (w : World) (hL : L = [] ∨ ∃ b o, a = some ⟨b, o, none⟩ ∧ b < w.heap.size ∧ OpRows w b o L) :
    Calls Try.prog 9 #[.int .i64 n, .slice a L.length cap, .agg (vv s)] w fun e w' => e = .returned (.bool true) ∧ Below w.heap.size w w' := by
  have HL := Lib.hid hL
  clear hL
  go_enter Try.func9, Try.ntmps9
  go_wp2_with fail
  have k1 := gblk_new w (Obj.cells (vv s) 23)
  have k0 := (Below.refl w.heap.size w).alloc (Nat.le_refl _) (Obj.cells (vv s) 23)
  generalize w.alloc (Obj.cells (vv s) 23) = w1 at *
  generalize hg5 : w.heap.size = g5 at *
  refine Calls.mono (awake19_any _) ?_
  rintro e w2 ⟨rfl, hb'⟩
  replace k0 := gbel hb' k0 (by have := k0.size; omega)
  replace k1 := gblk hb' k1
  clear hb'
  have K0 := Lib.hid k0
  clear k0
  by_cases hlen : (L.length : Int) > 300
  · go_wp2_with fail
    refine Calls.mono (awake19_any _) ?_
    rintro e w3 ⟨rfl, hb'⟩
    have HB3 := Lib.hid (gbel hb' K0.out (Nat.le_of_lt (VBox.lt k1)))
    clear hb'
    go_wp2
    go_ret
    exact ⟨rfl, HB3.out.mono (Nat.le_of_eq hg5)⟩
  go_wp2_with fail
  refine Calls.mono (mnew_any n w2) ?_
  rintro e w4 ⟨rfl, hb', hm⟩
  replace K0 := Lib.hid (gbel hb' K0.out (Nat.le_of_lt (VBox.lt k1)))
  have hlt5 : g5 < w2.heap.size := VBox.lt k1
  have K1 := Lib.hid (gblk hb' k1)
  have K2 : Hid (MX w4 w2.heap.size (dimI n) (runM (dimI n) zM (L.take 0))) := Lib.hid hm
  clear hb' hm k1
  generalize hgm : w2.heap.size = gm at *
  have hdn := dimI_bd n
  have HD : Hid (dimI n = mx 1 (mn n 16)) := Lib.hid rfl
  generalize dimI n = dn at *
  go_wp2_with fail
  go_loopw [32] (fun i wr => ∃ k : Nat, k ≤ L.length ∧ i = .int .i64 k ∧ Below g5 w wr ∧ blk wr g5 = some (.cells (vv s) 23) ∧ MX wr gm dn (runM dn zM (L.take k))) (fun i _ => L.length - (intOf i).toNat)
  case atStart => exact ⟨0, by omega, rfl, K0.out, K1.out, K2.out⟩
  case round =>
    obtain ⟨k, hk, rfl, k0, k1, k2⟩ := hrel
    by_cases hlt : k < L.length
    · rcases HL.out with h0 | ⟨b, o, rfl, hbw, hrows⟩
      · rw [h0] at hlt; simp at hlt
      have hrk := (hrows.keep (k0.mono (Nat.le_of_eq hg5))) k hlt
      have E := Lib.hid (runM_succ dn zM L hlt)
      obtain ⟨c1, c2⟩ := hrk
      clear hrows
      generalize L[k].1 = r at *
      generalize L[k].2 = v at *
      generalize runM dn zM (L.take k) = M at *
      have P0 := Lib.hid k0
      have hgml : gm < wr.heap.size := (Array.getElem?_eq_some_iff.1 (show wr.heap[gm]? = _ from k2)).1
      have hgml2 : wr.heap.size = wr.drew.heap.size := rfl
      rw [← HD.out]
      go_wp2_with fail
      apply later
      intro hcont
      refine wp_region_held_drew (S := fun w' => (Below g5 w w' ∧ g5 ≤ w'.heap.size ∧ gm < w'.heap.size) ∧ blk w' g5 = some (.cells (vv s) 23) ∧ MX w' gm dn M ∧ w'.cell? ⟨b, o + k * 17, none⟩ = some (.int .i64 r) ∧ rowN 16 w' b (o + k * 17 + 1) = some (vv v)) (by kernel_rfl) ⟨⟨P0.out.drew, Nat.le_of_lt (VBox.lt k1), hgml⟩, k1, k2, c1, c2⟩ (fun hHeld => ?_)
      refine wpAnyH_take (i := 0) (v := ?_) rfl (by kernel_rfl) (by kernel_rfl) (by kernel_rfl) (fun _ _ _ h => h) (Or.inl ⟨by rfl, ?_⟩) hHeld ?_
      rotate_left
      · intro w hSw; (try dsimp only at hSw); (try simp only [List.getElem_toArray, List.getElem_cons_succ, List.getElem_cons_zero]); (go_simp; try with_reducible rfl)
      try simp only [List.getElem_toArray, List.getElem_cons_succ, List.getElem_cons_zero, Act.put, List.setIfInBounds_toArray, List.set_cons_zero, List.set_cons_succ]
      refine wpAnyH_take (i := 2) (v := ?_) rfl (by kernel_rfl) (by kernel_rfl) (by kernel_rfl) (fun _ _ _ h => h) (Or.inl ⟨by rfl, ?_⟩) hHeld ?_
      rotate_left
      · intro w hSw; (try dsimp only at hSw); (try simp only [List.getElem_toArray, List.getElem_cons_succ, List.getElem_cons_zero]); (go_simp; try with_reducible rfl)
      try simp only [List.getElem_toArray, List.getElem_cons_succ, List.getElem_cons_zero, Act.put, List.setIfInBounds_toArray, List.set_cons_zero, List.set_cons_succ]
      refine wpAnyH_take (i := 3) (v := ?_) rfl (by kernel_rfl) (by kernel_rfl) (by kernel_rfl) (fun _ _ _ h => h) (Or.inl ⟨by rfl, ?_⟩) hHeld ?_
      rotate_left
      · intro w hSw; (try dsimp only at hSw); (try simp only [List.getElem_toArray, List.getElem_cons_succ, List.getElem_cons_zero]); (go_simp; try with_reducible rfl)
      try simp only [List.getElem_toArray, List.getElem_cons_succ, List.getElem_cons_zero, Act.put, List.setIfInBounds_toArray, List.set_cons_zero, List.set_cons_succ]
      refine wpAnyH_take (i := 4) (v := ?_) rfl (by kernel_rfl) (by kernel_rfl) (by kernel_rfl) (fun _ _ _ h => h) (Or.inl ⟨by rfl, ?_⟩) hHeld ?_
      rotate_left
      · intro w hSw; (try dsimp only at hSw); (try simp only [List.getElem_toArray, List.getElem_cons_succ, List.getElem_cons_zero]); (go_simp; try with_reducible rfl)
      try simp only [List.getElem_toArray, List.getElem_cons_succ, List.getElem_cons_zero, Act.put, List.setIfInBounds_toArray, List.set_cons_zero, List.set_cons_succ]
      refine wpAnyH_take (i := 5) (v := ?_) rfl (by kernel_rfl) (by kernel_rfl) (by kernel_rfl) (fun _ _ _ h => h) (Or.inl ⟨by rfl, ?_⟩) hHeld ?_
      rotate_left
      · intro w hSw; (try dsimp only at hSw); (try simp only [List.getElem_toArray, List.getElem_cons_succ, List.getElem_cons_zero]); (go_simp; try with_reducible rfl)
      try simp only [List.getElem_toArray, List.getElem_cons_succ, List.getElem_cons_zero, Act.put, List.setIfInBounds_toArray, List.set_cons_zero, List.set_cons_succ]
      refine wpAnyH_take (i := 6) (v := ?_) rfl (by kernel_rfl) (by kernel_rfl) (by kernel_rfl) (fun _ _ _ h => h) (Or.inl ⟨by rfl, ?_⟩) hHeld ?_
      rotate_left
      · intro w hSw; (try dsimp only at hSw); (try simp only [List.getElem_toArray, List.getElem_cons_succ, List.getElem_cons_zero]); (go_simp; try with_reducible rfl)
      try simp only [List.getElem_toArray, List.getElem_cons_succ, List.getElem_cons_zero, Act.put, List.setIfInBounds_toArray, List.set_cons_zero, List.set_cons_succ]
      refine wpAnyH_take (i := 7) (v := ?_) rfl (by kernel_rfl) (by kernel_rfl) (by kernel_rfl) (fun _ _ _ h => h) (Or.inl ⟨by rfl, ?_⟩) hHeld ?_
      rotate_left
      · intro w hSw; (try dsimp only at hSw); (try simp only [List.getElem_toArray, List.getElem_cons_succ, List.getElem_cons_zero]); (go_simp; try with_reducible rfl)
      try simp only [List.getElem_toArray, List.getElem_cons_succ, List.getElem_cons_zero, Act.put, List.setIfInBounds_toArray, List.set_cons_zero, List.set_cons_succ]
      generalize wr.drew = wz at hHeld ⊢
      refine wpAnyH_ready (rs := [1, 9, 10]) (by kernel_rfl) (by simp) ?_
      refine AllReadyH.cons rfl (fun K hK => ?_) (AllReadyH.cons rfl (fun K hK => ?_) (AllReadyH.cons rfl (fun K hK => ?_) (AllReadyH.nil)))
      · go_simp
        refine Calls.mono (mstable_any gm dn M _ ⟨by omega, hdn.2⟩ hHeld.2.2.1) ?_; rintro x wza ⟨rfl, hb'⟩
        refine hK.out _ _ ⟨⟨gbel hb' hHeld.1.1 hHeld.1.2.1, Nat.le_trans hHeld.1.2.1 hb'.size, Nat.lt_of_lt_of_le hHeld.1.2.2 hb'.size⟩, gblk hb' hHeld.2.1, gblk hb' hHeld.2.2.1, gcell hb' hHeld.2.2.2.1, rowN_keep hb' hHeld.2.2.2.2⟩ (fun hNew => ?_)
        clear hK K hHeld hb'
        have hHeld := hNew; clear hNew
        try simp only [List.getElem_toArray, List.getElem_cons_succ, List.getElem_cons_zero, Act.put, List.setIfInBounds_toArray, List.set_cons_zero, List.set_cons_succ]
        refine wpAnyH_ready (rs := [8, 9, 10]) (by kernel_rfl) (by simp) ?_
        refine AllReadyH.cons rfl (fun K hK => ?_) (AllReadyH.cons rfl (fun K hK => ?_) (AllReadyH.cons rfl (fun K hK => ?_) (AllReadyH.nil)))
        · go_simp
          refine Calls.mono (mrow_any gm dn r M _ hdn.2 hHeld.2.2.1) ?_; rintro x wzab ⟨rfl, hb'⟩
          refine hK.out _ _ ⟨⟨gbel hb' hHeld.1.1 hHeld.1.2.1, Nat.le_trans hHeld.1.2.1 hb'.size, Nat.lt_of_lt_of_le hHeld.1.2.2 hb'.size⟩, gblk hb' hHeld.2.1, gblk hb' hHeld.2.2.1, gcell hb' hHeld.2.2.2.1, rowN_keep hb' hHeld.2.2.2.2⟩ (fun hNew => ?_)
          clear hK K hHeld hb'
          have hHeld := hNew; clear hNew
          try simp only [List.getElem_toArray, List.getElem_cons_succ, List.getElem_cons_zero, Act.put, List.setIfInBounds_toArray, List.set_cons_zero, List.set_cons_succ]
          refine wpAnyH_ready (rs := [9, 10]) (by kernel_rfl) (by simp) ?_
          refine AllReadyH.cons rfl (fun K hK => ?_) (AllReadyH.cons rfl (fun K hK => ?_) (AllReadyH.nil))
          · go_simp
            have hgx : g5 < wzab.heap.size := VBox.lt hHeld.2.1
            have hB := (Below.refl wzab.heap.size wzab).alloc (Nat.le_refl _) (Obj.cells (vv z0) 23)
            refine hK.out _ _ ⟨⟨gbel hB hHeld.1.1 hHeld.1.2.1, Nat.le_trans hHeld.1.2.1 hB.size, Nat.lt_of_lt_of_le hHeld.1.2.2 hB.size⟩, gblk hB hHeld.2.1, gblk hB hHeld.2.2.1, gcell hB hHeld.2.2.2.1, rowN_keep hB hHeld.2.2.2.2⟩ (fun hNew => ?_)
            have hX := gblk_new wzab (Obj.cells (vv z0) 23)
            clear hK K hHeld hB
            have hHeld := hNew; clear hNew
            try simp only [List.getElem_toArray, List.getElem_cons_succ, List.getElem_cons_zero, Act.put, List.setIfInBounds_toArray, List.set_cons_zero, List.set_cons_succ]
            generalize wzab.alloc (Obj.cells (vv z0) 23) = wzabc at hX hHeld ⊢
            generalize wzab.heap.size = gx at hX hgx ⊢
            refine wpAnyH_ready (rs := [10]) (by kernel_rfl) (by simp) ?_
            refine AllReadyH.cons rfl (fun K hK => ?_) (AllReadyH.nil)
            · go_simp
              have hgy : g5 < wzabc.heap.size := VBox.lt hHeld.2.1
              have hB := (Below.refl wzabc.heap.size wzabc).alloc (Nat.le_refl _) (Obj.cells (vv z0) 23)
              refine hK.out _ _ ⟨⟨gbel hB hHeld.1.1 hHeld.1.2.1, Nat.le_trans hHeld.1.2.1 hB.size, Nat.lt_of_lt_of_le hHeld.1.2.2 hB.size⟩, gblk hB hHeld.2.1, gblk hB hHeld.2.2.1, gcell hB hHeld.2.2.2.1, rowN_keep hB hHeld.2.2.2.2⟩ (fun hNew => ?_)
              have hY := gblk_new wzabc (Obj.cells (vv z0) 23)
              have hxy : gx ≠ wzabc.heap.size := Nat.ne_of_lt (VBox.lt hX)
              replace hX := gblk hB hX
              clear hK K hHeld hB
              have hHeld := hNew; clear hNew
              try simp only [List.getElem_toArray, List.getElem_cons_succ, List.getElem_cons_zero, Act.put, List.setIfInBounds_toArray, List.set_cons_zero, List.set_cons_succ]
              generalize wzabc.alloc (Obj.cells (vv z0) 23) = wzabcd at hX hY hHeld ⊢
              generalize wzabc.heap.size = gy at hY hgy hxy ⊢
              have hyx : gy ≠ gx := by first | exact hxy | exact hxy.symm
              have hbx : b ≠ gx := by omega
              have hby : b ≠ gy := by omega
              clear hxy
              refine wpAnyH_ready (rs := [11]) (by kernel_rfl) (by simp) ?_
              refine AllReadyH.cons rfl (fun K hK => ?_) AllReadyH.nil
              (try simp only [List.getElem_toArray, List.getElem_cons_succ, List.getElem_cons_zero])
              go_simp
              have hG := setRow_grown wzabcd gx (vv (stabF dn M))
              refine hK.out _ _ ⟨⟨grown_new hG hHeld.1.2.1 (Nat.le_of_lt hgx) hHeld.1.1, Nat.le_trans hHeld.1.2.1 hG.size, Nat.lt_of_lt_of_le hHeld.1.2.2 hG.size⟩, grown_blk hG (Nat.ne_of_lt hgx) hHeld.2.1, grown_blk hG (blk_ne hX hHeld.2.2.1).symm hHeld.2.2.1, hG.cell hHeld.2.2.2.1 (fun e => hbx (by simpa using e)), rowN_grown hG hbx hHeld.2.2.2.2⟩ (fun hNew => ?_)
              replace hX : blk (wzabcd.setRow gx (vv (stabF dn M))) gx = some (.cells (vv (stabF dn M)) 23) := by rw [blk_setRow, if_pos rfl, hX]
              replace hY := grown_blk hG hyx hY
              clear hK K hHeld hG
              have hHeld := hNew; clear hNew
              try simp only [List.getElem_toArray, List.getElem_cons_succ, List.getElem_cons_zero, Act.put, List.setIfInBounds_toArray, List.set_cons_zero, List.set_cons_succ]
              generalize wzabcd.setRow gx (vv (stabF dn M)) = wzabcdx at hX hY hHeld ⊢
              refine wpAnyH_ready (rs := [12]) (by kernel_rfl) (by simp) ?_
              refine AllReadyH.cons rfl (fun K hK => ?_) AllReadyH.nil
              (try simp only [List.getElem_toArray, List.getElem_cons_succ, List.getElem_cons_zero])
              go_simp
              have hG := setRow_grown wzabcdx gy (vv (rowF dn M r))
              refine hK.out _ _ ⟨⟨grown_new hG hHeld.1.2.1 (Nat.le_of_lt hgy) hHeld.1.1, Nat.le_trans hHeld.1.2.1 hG.size, Nat.lt_of_lt_of_le hHeld.1.2.2 hG.size⟩, grown_blk hG (Nat.ne_of_lt hgy) hHeld.2.1, grown_blk hG (blk_ne hY hHeld.2.2.1).symm hHeld.2.2.1, hG.cell hHeld.2.2.2.1 (fun e => hby (by simpa using e)), rowN_grown hG hby hHeld.2.2.2.2⟩ (fun hNew => ?_)
              replace hY : blk (wzabcdx.setRow gy (vv (rowF dn M r))) gy = some (.cells (vv (rowF dn M r)) 23) := by rw [blk_setRow, if_pos rfl, hY]
              replace hX := grown_blk hG hyx.symm hX
              clear hK K hHeld hG
              have hHeld := hNew; clear hNew
              try simp only [List.getElem_toArray, List.getElem_cons_succ, List.getElem_cons_zero, Act.put, List.setIfInBounds_toArray, List.set_cons_zero, List.set_cons_succ]
              generalize wzabcdx.setRow gy (vv (rowF dn M r)) = wzabcdxy at hX hY hHeld ⊢
              refine wpAnyH_done (by kernel_rfl) ?_ _
              clear hbx hby
              revert hHeld hX hY hyx hgx hgy; revert gx gy wzabcdxy
              exact hcont.out
          · go_simp
            have hgy : g5 < wzab.heap.size := VBox.lt hHeld.2.1
            have hB := (Below.refl wzab.heap.size wzab).alloc (Nat.le_refl _) (Obj.cells (vv z0) 23)
            refine hK.out _ _ ⟨⟨gbel hB hHeld.1.1 hHeld.1.2.1, Nat.le_trans hHeld.1.2.1 hB.size, Nat.lt_of_lt_of_le hHeld.1.2.2 hB.size⟩, gblk hB hHeld.2.1, gblk hB hHeld.2.2.1, gcell hB hHeld.2.2.2.1, rowN_keep hB hHeld.2.2.2.2⟩ (fun hNew => ?_)
            have hY := gblk_new wzab (Obj.cells (vv z0) 23)
            clear hK K hHeld hB
            have hHeld := hNew; clear hNew
            try simp only [List.getElem_toArray, List.getElem_cons_succ, List.getElem_cons_zero, Act.put, List.setIfInBounds_toArray, List.set_cons_zero, List.set_cons_succ]
            generalize wzab.alloc (Obj.cells (vv z0) 23) = wzabc at hY hHeld ⊢
            generalize wzab.heap.size = gy at hY hgy ⊢
            refine wpAnyH_ready (rs := [9]) (by kernel_rfl) (by simp) ?_
            refine AllReadyH.cons rfl (fun K hK => ?_) (AllReadyH.nil)
            · go_simp
              have hgx : g5 < wzabc.heap.size := VBox.lt hHeld.2.1
              have hB := (Below.refl wzabc.heap.size wzabc).alloc (Nat.le_refl _) (Obj.cells (vv z0) 23)
              refine hK.out _ _ ⟨⟨gbel hB hHeld.1.1 hHeld.1.2.1, Nat.le_trans hHeld.1.2.1 hB.size, Nat.lt_of_lt_of_le hHeld.1.2.2 hB.size⟩, gblk hB hHeld.2.1, gblk hB hHeld.2.2.1, gcell hB hHeld.2.2.2.1, rowN_keep hB hHeld.2.2.2.2⟩ (fun hNew => ?_)
              have hX := gblk_new wzabc (Obj.cells (vv z0) 23)
              have hxy : gy ≠ wzabc.heap.size := Nat.ne_of_lt (VBox.lt hY)
              replace hY := gblk hB hY
              clear hK K hHeld hB
              have hHeld := hNew; clear hNew
              try simp only [List.getElem_toArray, List.getElem_cons_succ, List.getElem_cons_zero, Act.put, List.setIfInBounds_toArray, List.set_cons_zero, List.set_cons_succ]
              generalize wzabc.alloc (Obj.cells (vv z0) 23) = wzabcd at hX hY hHeld ⊢
              generalize wzabc.heap.size = gx at hX hgx hxy ⊢
              have hyx : gy ≠ gx := by first | exact hxy | exact hxy.symm
              have hbx : b ≠ gx := by omega
              have hby : b ≠ gy := by omega
              clear hxy
              refine wpAnyH_ready (rs := [11]) (by kernel_rfl) (by simp) ?_
              refine AllReadyH.cons rfl (fun K hK => ?_) AllReadyH.nil
              (try simp only [List.getElem_toArray, List.getElem_cons_succ, List.getElem_cons_zero])
              go_simp
              have hG := setRow_grown wzabcd gx (vv (stabF dn M))
              refine hK.out _ _ ⟨⟨grown_new hG hHeld.1.2.1 (Nat.le_of_lt hgx) hHeld.1.1, Nat.le_trans hHeld.1.2.1 hG.size, Nat.lt_of_lt_of_le hHeld.1.2.2 hG.size⟩, grown_blk hG (Nat.ne_of_lt hgx) hHeld.2.1, grown_blk hG (blk_ne hX hHeld.2.2.1).symm hHeld.2.2.1, hG.cell hHeld.2.2.2.1 (fun e => hbx (by simpa using e)), rowN_grown hG hbx hHeld.2.2.2.2⟩ (fun hNew => ?_)
              replace hX : blk (wzabcd.setRow gx (vv (stabF dn M))) gx = some (.cells (vv (stabF dn M)) 23) := by rw [blk_setRow, if_pos rfl, hX]
              replace hY := grown_blk hG hyx hY
              clear hK K hHeld hG
              have hHeld := hNew; clear hNew
              try simp only [List.getElem_toArray, List.getElem_cons_succ, List.getElem_cons_zero, Act.put, List.setIfInBounds_toArray, List.set_cons_zero, List.set_cons_succ]
              generalize wzabcd.setRow gx (vv (stabF dn M)) = wzabcdx at hX hY hHeld ⊢
              refine wpAnyH_ready (rs := [12]) (by kernel_rfl) (by simp) ?_
              refine AllReadyH.cons rfl (fun K hK => ?_) AllReadyH.nil
              (try simp only [List.getElem_toArray, List.getElem_cons_succ, List.getElem_cons_zero])
              go_simp
              have hG := setRow_grown wzabcdx gy (vv (rowF dn M r))
              refine hK.out _ _ ⟨⟨grown_new hG hHeld.1.2.1 (Nat.le_of_lt hgy) hHeld.1.1, Nat.le_trans hHeld.1.2.1 hG.size, Nat.lt_of_lt_of_le hHeld.1.2.2 hG.size⟩, grown_blk hG (Nat.ne_of_lt hgy) hHeld.2.1, grown_blk hG (blk_ne hY hHeld.2.2.1).symm hHeld.2.2.1, hG.cell hHeld.2.2.2.1 (fun e => hby (by simpa using e)), rowN_grown hG hby hHeld.2.2.2.2⟩ (fun hNew => ?_)
              replace hY : blk (wzabcdx.setRow gy (vv (rowF dn M r))) gy = some (.cells (vv (rowF dn M r)) 23) := by rw [blk_setRow, if_pos rfl, hY]
              replace hX := grown_blk hG hyx.symm hX
              clear hK K hHeld hG
              have hHeld := hNew; clear hNew
              try simp only [List.getElem_toArray, List.getElem_cons_succ, List.getElem_cons_zero, Act.put, List.setIfInBounds_toArray, List.set_cons_zero, List.set_cons_succ]
              generalize wzabcdx.setRow gy (vv (rowF dn M r)) = wzabcdxy at hX hY hHeld ⊢
              refine wpAnyH_done (by kernel_rfl) ?_ _
              clear hbx hby
              exact hcont.out gx gy wzabcdxy hgx hgy hyx hX hY hHeld
        · go_simp
          have hgx : g5 < wza.heap.size := VBox.lt hHeld.2.1
          have hB := (Below.refl wza.heap.size wza).alloc (Nat.le_refl _) (Obj.cells (vv z0) 23)
          refine hK.out _ _ ⟨⟨gbel hB hHeld.1.1 hHeld.1.2.1, Nat.le_trans hHeld.1.2.1 hB.size, Nat.lt_of_lt_of_le hHeld.1.2.2 hB.size⟩, gblk hB hHeld.2.1, gblk hB hHeld.2.2.1, gcell hB hHeld.2.2.2.1, rowN_keep hB hHeld.2.2.2.2⟩ (fun hNew => ?_)
          have hX := gblk_new wza (Obj.cells (vv z0) 23)
          clear hK K hHeld hB
          have hHeld := hNew; clear hNew
          try simp only [List.getElem_toArray, List.getElem_cons_succ, List.getElem_cons_zero, Act.put, List.setIfInBounds_toArray, List.set_cons_zero, List.set_cons_succ]
          generalize wza.alloc (Obj.cells (vv z0) 23) = wzab at hX hHeld ⊢
          generalize wza.heap.size = gx at hX hgx ⊢
          refine wpAnyH_ready (rs := [8, 10]) (by kernel_rfl) (by simp) ?_
          refine AllReadyH.cons rfl (fun K hK => ?_) (AllReadyH.cons rfl (fun K hK => ?_) (AllReadyH.nil))
          · go_simp
            refine Calls.mono (mrow_any gm dn r M _ hdn.2 hHeld.2.2.1) ?_; rintro x wzabc ⟨rfl, hb'⟩
            refine hK.out _ _ ⟨⟨gbel hb' hHeld.1.1 hHeld.1.2.1, Nat.le_trans hHeld.1.2.1 hb'.size, Nat.lt_of_lt_of_le hHeld.1.2.2 hb'.size⟩, gblk hb' hHeld.2.1, gblk hb' hHeld.2.2.1, gcell hb' hHeld.2.2.2.1, rowN_keep hb' hHeld.2.2.2.2⟩ (fun hNew => ?_)
            replace hX := gblk hb' hX
            clear hK K hHeld hb'
            have hHeld := hNew; clear hNew
            try simp only [List.getElem_toArray, List.getElem_cons_succ, List.getElem_cons_zero, Act.put, List.setIfInBounds_toArray, List.set_cons_zero, List.set_cons_succ]
            refine wpAnyH_ready (rs := [10]) (by kernel_rfl) (by simp) ?_
            refine AllReadyH.cons rfl (fun K hK => ?_) (AllReadyH.nil)
            · go_simp
              have hgy : g5 < wzabc.heap.size := VBox.lt hHeld.2.1
              have hB := (Below.refl wzabc.heap.size wzabc).alloc (Nat.le_refl _) (Obj.cells (vv z0) 23)
              refine hK.out _ _ ⟨⟨gbel hB hHeld.1.1 hHeld.1.2.1, Nat.le_trans hHeld.1.2.1 hB.size, Nat.lt_of_lt_of_le hHeld.1.2.2 hB.size⟩, gblk hB hHeld.2.1, gblk hB hHeld.2.2.1, gcell hB hHeld.2.2.2.1, rowN_keep hB hHeld.2.2.2.2⟩ (fun hNew => ?_)
              have hY := gblk_new wzabc (Obj.cells (vv z0) 23)
              have hxy : gx ≠ wzabc.heap.size := Nat.ne_of_lt (VBox.lt hX)
              replace hX := gblk hB hX
              clear hK K hHeld hB
              have hHeld := hNew; clear hNew
              try simp only [List.getElem_toArray, List.getElem_cons_succ, List.getElem_cons_zero, Act.put, List.setIfInBounds_toArray, List.set_cons_zero, List.set_cons_succ]
              generalize wzabc.alloc (Obj.cells (vv z0) 23) = wzabcd at hX hY hHeld ⊢
              generalize wzabc.heap.size = gy at hY hgy hxy ⊢
              have hyx : gy ≠ gx := by first | exact hxy | exact hxy.symm
              have hbx : b ≠ gx := by omega
              have hby : b ≠ gy := by omega
              clear hxy
              refine wpAnyH_ready (rs := [11]) (by kernel_rfl) (by simp) ?_
              refine AllReadyH.cons rfl (fun K hK => ?_) AllReadyH.nil
              (try simp only [List.getElem_toArray, List.getElem_cons_succ, List.getElem_cons_zero])
              go_simp
              have hG := setRow_grown wzabcd gx (vv (stabF dn M))
              refine hK.out _ _ ⟨⟨grown_new hG hHeld.1.2.1 (Nat.le_of_lt hgx) hHeld.1.1, Nat.le_trans hHeld.1.2.1 hG.size, Nat.lt_of_lt_of_le hHeld.1.2.2 hG.size⟩, grown_blk hG (Nat.ne_of_lt hgx) hHeld.2.1, grown_blk hG (blk_ne hX hHeld.2.2.1).symm hHeld.2.2.1, hG.cell hHeld.2.2.2.1 (fun e => hbx (by simpa using e)), rowN_grown hG hbx hHeld.2.2.2.2⟩ (fun hNew => ?_)
              replace hX : blk (wzabcd.setRow gx (vv (stabF dn M))) gx = some (.cells (vv (stabF dn M)) 23) := by rw [blk_setRow, if_pos rfl, hX]
              replace hY := grown_blk hG hyx hY
              clear hK K hHeld hG
              have hHeld := hNew; clear hNew
              try simp only [List.getElem_toArray, List.getElem_cons_succ, List.getElem_cons_zero, Act.put, List.setIfInBounds_toArray, List.set_cons_zero, List.set_cons_succ]
              generalize wzabcd.setRow gx (vv (stabF dn M)) = wzabcdx at hX hY hHeld ⊢
              refine wpAnyH_ready (rs := [12]) (by kernel_rfl) (by simp) ?_
              refine AllReadyH.cons rfl (fun K hK => ?_) AllReadyH.nil
              (try simp only [List.getElem_toArray, List.getElem_cons_succ, List.getElem_cons_zero])
              go_simp
              have hG := setRow_grown wzabcdx gy (vv (rowF dn M r))
              refine hK.out _ _ ⟨⟨grown_new hG hHeld.1.2.1 (Nat.le_of_lt hgy) hHeld.1.1, Nat.le_trans hHeld.1.2.1 hG.size, Nat.lt_of_lt_of_le hHeld.1.2.2 hG.size⟩, grown_blk hG (Nat.ne_of_lt hgy) hHeld.2.1, grown_blk hG (blk_ne hY hHeld.2.2.1).symm hHeld.2.2.1, hG.cell hHeld.2.2.2.1 (fun e => hby (by simpa using e)), rowN_grown hG hby hHeld.2.2.2.2⟩ (fun hNew => ?_)
              replace hY : blk (wzabcdx.setRow gy (vv (rowF dn M r))) gy = some (.cells (vv (rowF dn M r)) 23) := by rw [blk_setRow, if_pos rfl, hY]
              replace hX := grown_blk hG hyx.symm hX
              clear hK K hHeld hG
              have hHeld := hNew; clear hNew
              try simp only [List.getElem_toArray, List.getElem_cons_succ, List.getElem_cons_zero, Act.put, List.setIfInBounds_toArray, List.set_cons_zero, List.set_cons_succ]
              generalize wzabcdx.setRow gy (vv (rowF dn M r)) = wzabcdxy at hX hY hHeld ⊢
              refine wpAnyH_done (by kernel_rfl) ?_ _
              clear hbx hby
              exact hcont.out gx gy wzabcdxy hgx hgy hyx hX hY hHeld
          · go_simp
            have hgy : g5 < wzab.heap.size := VBox.lt hHeld.2.1
            have hB := (Below.refl wzab.heap.size wzab).alloc (Nat.le_refl _) (Obj.cells (vv z0) 23)
            refine hK.out _ _ ⟨⟨gbel hB hHeld.1.1 hHeld.1.2.1, Nat.le_trans hHeld.1.2.1 hB.size, Nat.lt_of_lt_of_le hHeld.1.2.2 hB.size⟩, gblk hB hHeld.2.1, gblk hB hHeld.2.2.1, gcell hB hHeld.2.2.2.1, rowN_keep hB hHeld.2.2.2.2⟩ (fun hNew => ?_)
            have hY := gblk_new wzab (Obj.cells (vv z0) 23)
            have hxy : gx ≠ wzab.heap.size := Nat.ne_of_lt (VBox.lt hX)
            replace hX := gblk hB hX
            clear hK K hHeld hB
            have hHeld := hNew; clear hNew
            try simp only [List.getElem_toArray, List.getElem_cons_succ, List.getElem_cons_zero, Act.put, List.setIfInBounds_toArray, List.set_cons_zero, List.set_cons_succ]
            generalize wzab.alloc (Obj.cells (vv z0) 23) = wzabc at hX hY hHeld ⊢
            generalize wzab.heap.size = gy at hY hgy hxy ⊢
            refine wpAnyH_ready (rs := [8]) (by kernel_rfl) (by simp) ?_
            refine AllReadyH.cons rfl (fun K hK => ?_) (AllReadyH.nil)
            · go_simp
              refine Calls.mono (mrow_any gm dn r M _ hdn.2 hHeld.2.2.1) ?_; rintro x wzabcd ⟨rfl, hb'⟩
              refine hK.out _ _ ⟨⟨gbel hb' hHeld.1.1 hHeld.1.2.1, Nat.le_trans hHeld.1.2.1 hb'.size, Nat.lt_of_lt_of_le hHeld.1.2.2 hb'.size⟩, gblk hb' hHeld.2.1, gblk hb' hHeld.2.2.1, gcell hb' hHeld.2.2.2.1, rowN_keep hb' hHeld.2.2.2.2⟩ (fun hNew => ?_)
              replace hX := gblk hb' hX
              replace hY := gblk hb' hY
              clear hK K hHeld hb'
              have hHeld := hNew; clear hNew
              try simp only [List.getElem_toArray, List.getElem_cons_succ, List.getElem_cons_zero, Act.put, List.setIfInBounds_toArray, List.set_cons_zero, List.set_cons_succ]
              have hyx : gy ≠ gx := by first | exact hxy | exact hxy.symm
              have hbx : b ≠ gx := by omega
              have hby : b ≠ gy := by omega
              clear hxy
              refine wpAnyH_ready (rs := [11]) (by kernel_rfl) (by simp) ?_
              refine AllReadyH.cons rfl (fun K hK => ?_) AllReadyH.nil
              (try simp only [List.getElem_toArray, List.getElem_cons_succ, List.getElem_cons_zero])
              go_simp
              have hG := setRow_grown wzabcd gx (vv (stabF dn M))
              refine hK.out _ _ ⟨⟨grown_new hG hHeld.1.2.1 (Nat.le_of_lt hgx) hHeld.1.1, Nat.le_trans hHeld.1.2.1 hG.size, Nat.lt_of_lt_of_le hHeld.1.2.2 hG.size⟩, grown_blk hG (Nat.ne_of_lt hgx) hHeld.2.1, grown_blk hG (blk_ne hX hHeld.2.2.1).symm hHeld.2.2.1, hG.cell hHeld.2.2.2.1 (fun e => hbx (by simpa using e)), rowN_grown hG hbx hHeld.2.2.2.2⟩ (fun hNew => ?_)
              replace hX : blk (wzabcd.setRow gx (vv (stabF dn M))) gx = some (.cells (vv (stabF dn M)) 23) := by rw [blk_setRow, if_pos rfl, hX]
              replace hY := grown_blk hG hyx hY
              clear hK K hHeld hG
              have hHeld := hNew; clear hNew
              try simp only [List.getElem_toArray, List.getElem_cons_succ, List.getElem_cons_zero, Act.put, List.setIfInBounds_toArray, List.set_cons_zero, List.set_cons_succ]
              generalize wzabcd.setRow gx (vv (stabF dn M)) = wzabcdx at hX hY hHeld ⊢
              refine wpAnyH_ready (rs := [12]) (by kernel_rfl) (by simp) ?_
              refine AllReadyH.cons rfl (fun K hK => ?_) AllReadyH.nil
              (try simp only [List.getElem_toArray, List.getElem_cons_succ, List.getElem_cons_zero])
              go_simp
              have hG := setRow_grown wzabcdx gy (vv (rowF dn M r))
              refine hK.out _ _ ⟨⟨grown_new hG hHeld.1.2.1 (Nat.le_of_lt hgy) hHeld.1.1, Nat.le_trans hHeld.1.2.1 hG.size, Nat.lt_of_lt_of_le hHeld.1.2.2 hG.size⟩, grown_blk hG (Nat.ne_of_lt hgy) hHeld.2.1, grown_blk hG (blk_ne hY hHeld.2.2.1).symm hHeld.2.2.1, hG.cell hHeld.2.2.2.1 (fun e => hby (by simpa using e)), rowN_grown hG hby hHeld.2.2.2.2⟩ (fun hNew => ?_)
              replace hY : blk (wzabcdx.setRow gy (vv (rowF dn M r))) gy = some (.cells (vv (rowF dn M r)) 23) := by rw [blk_setRow, if_pos rfl, hY]
              replace hX := grown_blk hG hyx.symm hX
              clear hK K hHeld hG
              have hHeld := hNew; clear hNew
              try simp only [List.getElem_toArray, List.getElem_cons_succ, List.getElem_cons_zero, Act.put, List.setIfInBounds_toArray, List.set_cons_zero, List.set_cons_succ]
              generalize wzabcdx.setRow gy (vv (rowF dn M r)) = wzabcdxy at hX hY hHeld ⊢
              refine wpAnyH_done (by kernel_rfl) ?_ _
              clear hbx hby
              exact hcont.out gx gy wzabcdxy hgx hgy hyx hX hY hHeld
        · go_simp
          have hgy : g5 < wza.heap.size := VBox.lt hHeld.2.1
          have hB := (Below.refl wza.heap.size wza).alloc (Nat.le_refl _) (Obj.cells (vv z0) 23)
          refine hK.out _ _ ⟨⟨gbel hB hHeld.1.1 hHeld.1.2.1, Nat.le_trans hHeld.1.2.1 hB.size, Nat.lt_of_lt_of_le hHeld.1.2.2 hB.size⟩, gblk hB hHeld.2.1, gblk hB hHeld.2.2.1, gcell hB hHeld.2.2.2.1, rowN_keep hB hHeld.2.2.2.2⟩ (fun hNew => ?_)
          have hY := gblk_new wza (Obj.cells (vv z0) 23)
          clear hK K hHeld hB
          have hHeld := hNew; clear hNew
          try simp only [List.getElem_toArray, List.getElem_cons_succ, List.getElem_cons_zero, Act.put, List.setIfInBounds_toArray, List.set_cons_zero, List.set_cons_succ]
          generalize wza.alloc (Obj.cells (vv z0) 23) = wzab at hY hHeld ⊢
          generalize wza.heap.size = gy at hY hgy ⊢
          refine wpAnyH_ready (rs := [8, 9]) (by kernel_rfl) (by simp) ?_
          refine AllReadyH.cons rfl (fun K hK => ?_) (AllReadyH.cons rfl (fun K hK => ?_) (AllReadyH.nil))
          · go_simp
            refine Calls.mono (mrow_any gm dn r M _ hdn.2 hHeld.2.2.1) ?_; rintro x wzabc ⟨rfl, hb'⟩
            refine hK.out _ _ ⟨⟨gbel hb' hHeld.1.1 hHeld.1.2.1, Nat.le_trans hHeld.1.2.1 hb'.size, Nat.lt_of_lt_of_le hHeld.1.2.2 hb'.size⟩, gblk hb' hHeld.2.1, gblk hb' hHeld.2.2.1, gcell hb' hHeld.2.2.2.1, rowN_keep hb' hHeld.2.2.2.2⟩ (fun hNew => ?_)
            replace hY := gblk hb' hY
            clear hK K hHeld hb'
            have hHeld := hNew; clear hNew
            try simp only [List.getElem_toArray, List.getElem_cons_succ, List.getElem_cons_zero, Act.put, List.setIfInBounds_toArray, List.set_cons_zero, List.set_cons_succ]
            refine wpAnyH_ready (rs := [9]) (by kernel_rfl) (by simp) ?_
            refine AllReadyH.cons rfl (fun K hK => ?_) (AllReadyH.nil)
            · go_simp
              have hgx : g5 < wzabc.heap.size := VBox.lt hHeld.2.1
              have hB := (Below.refl wzabc.heap.size wzabc).alloc (Nat.le_refl _) (Obj.cells (vv z0) 23)
              refine hK.out _ _ ⟨⟨gbel hB hHeld.1.1 hHeld.1.2.1, Nat.le_trans hHeld.1.2.1 hB.size, Nat.lt_of_lt_of_le hHeld.1.2.2 hB.size⟩, gblk hB hHeld.2.1, gblk hB hHeld.2.2.1, gcell hB hHeld.2.2.2.1, rowN_keep hB hHeld.2.2.2.2⟩ (fun hNew => ?_)
              have hX := gblk_new wzabc (Obj.cells (vv z0) 23)
              have hxy : gy ≠ wzabc.heap.size := Nat.ne_of_lt (VBox.lt hY)
              replace hY := gblk hB hY
              clear hK K hHeld hB
              have hHeld := hNew; clear hNew
              try simp only [List.getElem_toArray, List.getElem_cons_succ, List.getElem_cons_zero, Act.put, List.setIfInBounds_toArray, List.set_cons_zero, List.set_cons_succ]
              generalize wzabc.alloc (Obj.cells (vv z0) 23) = wzabcd at hX hY hHeld ⊢
              generalize wzabc.heap.size = gx at hX hgx hxy ⊢
              have hyx : gy ≠ gx := by first | exact hxy | exact hxy.symm
              have hbx : b ≠ gx := by omega
              have hby : b ≠ gy := by omega
              clear hxy
              refine wpAnyH_ready (rs := [11]) (by kernel_rfl) (by simp) ?_
              refine AllReadyH.cons rfl (fun K hK => ?_) AllReadyH.nil
              (try simp only [List.getElem_toArray, List.getElem_cons_succ, List.getElem_cons_zero])
              go_simp
              have hG := setRow_grown wzabcd gx (vv (stabF dn M))
              refine hK.out _ _ ⟨⟨grown_new hG hHeld.1.2.1 (Nat.le_of_lt hgx) hHeld.1.1, Nat.le_trans hHeld.1.2.1 hG.size, Nat.lt_of_lt_of_le hHeld.1.2.2 hG.size⟩, grown_blk hG (Nat.ne_of_lt hgx) hHeld.2.1, grown_blk hG (blk_ne hX hHeld.2.2.1).symm hHeld.2.2.1, hG.cell hHeld.2.2.2.1 (fun e => hbx (by simpa using e)), rowN_grown hG hbx hHeld.2.2.2.2⟩ (fun hNew => ?_)
              replace hX : blk (wzabcd.setRow gx (vv (stabF dn M))) gx = some (.cells (vv (stabF dn M)) 23) := by rw [blk_setRow, if_pos rfl, hX]
              replace hY := grown_blk hG hyx hY
              clear hK K hHeld hG
              have hHeld := hNew; clear hNew
              try simp only [List.getElem_toArray, List.getElem_cons_succ, List.getElem_cons_zero, Act.put, List.setIfInBounds_toArray, List.set_cons_zero, List.set_cons_succ]
              generalize wzabcd.setRow gx (vv (stabF dn M)) = wzabcdx at hX hY hHeld ⊢
              refine wpAnyH_ready (rs := [12]) (by kernel_rfl) (by simp) ?_
              refine AllReadyH.cons rfl (fun K hK => ?_) AllReadyH.nil
              (try simp only [List.getElem_toArray, List.getElem_cons_succ, List.getElem_cons_zero])
              go_simp
              have hG := setRow_grown wzabcdx gy (vv (rowF dn M r))
              refine hK.out _ _ ⟨⟨grown_new hG hHeld.1.2.1 (Nat.le_of_lt hgy) hHeld.1.1, Nat.le_trans hHeld.1.2.1 hG.size, Nat.lt_of_lt_of_le hHeld.1.2.2 hG.size⟩, grown_blk hG (Nat.ne_of_lt hgy) hHeld.2.1, grown_blk hG (blk_ne hY hHeld.2.2.1).symm hHeld.2.2.1, hG.cell hHeld.2.2.2.1 (fun e => hby (by simpa using e)), rowN_grown hG hby hHeld.2.2.2.2⟩ (fun hNew => ?_)
              replace hY : blk (wzabcdx.setRow gy (vv (rowF dn M r))) gy = some (.cells (vv (rowF dn M r)) 23) := by rw [blk_setRow, if_pos rfl, hY]
              replace hX := grown_blk hG hyx.symm hX
              clear hK K hHeld hG
              have hHeld := hNew; clear hNew
              try simp only [List.getElem_toArray, List.getElem_cons_succ, List.getElem_cons_zero, Act.put, List.setIfInBounds_toArray, List.set_cons_zero, List.set_cons_succ]
              generalize wzabcdx.setRow gy (vv (rowF dn M r)) = wzabcdxy at hX hY hHeld ⊢
              refine wpAnyH_done (by kernel_rfl) ?_ _
              clear hbx hby
              exact hcont.out gx gy wzabcdxy hgx hgy hyx hX hY hHeld
          · go_simp
            have hgx : g5 < wzab.heap.size := VBox.lt hHeld.2.1
            have hB := (Below.refl wzab.heap.size wzab).alloc (Nat.le_refl _) (Obj.cells (vv z0) 23)
            refine hK.out _ _ ⟨⟨gbel hB hHeld.1.1 hHeld.1.2.1, Nat.le_trans hHeld.1.2.1 hB.size, Nat.lt_of_lt_of_le hHeld.1.2.2 hB.size⟩, gblk hB hHeld.2.1, gblk hB hHeld.2.2.1, gcell hB hHeld.2.2.2.1, rowN_keep hB hHeld.2.2.2.2⟩ (fun hNew => ?_)
            have hX := gblk_new wzab (Obj.cells (vv z0) 23)
            have hxy : gy ≠ wzab.heap.size := Nat.ne_of_lt (VBox.lt hY)
            replace hY := gblk hB hY
            clear hK K hHeld hB
            have hHeld := hNew; clear hNew
            try simp only [List.getElem_toArray, List.getElem_cons_succ, List.getElem_cons_zero, Act.put, List.setIfInBounds_toArray, List.set_cons_zero, List.set_cons_succ]
            generalize wzab.alloc (Obj.cells (vv z0) 23) = wzabc at hX hY hHeld ⊢
            generalize wzab.heap.size = gx at hX hgx hxy ⊢
            refine wpAnyH_ready (rs := [8]) (by kernel_rfl) (by simp) ?_
            refine AllReadyH.cons rfl (fun K hK => ?_) (AllReadyH.nil)
            · go_simp
              refine Calls.mono (mrow_any gm dn r M _ hdn.2 hHeld.2.2.1) ?_; rintro x wzabcd ⟨rfl, hb'⟩
              refine hK.out _ _ ⟨⟨gbel hb' hHeld.1.1 hHeld.1.2.1, Nat.le_trans hHeld.1.2.1 hb'.size, Nat.lt_of_lt_of_le hHeld.1.2.2 hb'.size⟩, gblk hb' hHeld.2.1, gblk hb' hHeld.2.2.1, gcell hb' hHeld.2.2.2.1, rowN_keep hb' hHeld.2.2.2.2⟩ (fun hNew => ?_)
              replace hX := gblk hb' hX
              replace hY := gblk hb' hY
              clear hK K hHeld hb'
              have hHeld := hNew; clear hNew
              try simp only [List.getElem_toArray, List.getElem_cons_succ, List.getElem_cons_zero, Act.put, List.setIfInBounds_toArray, List.set_cons_zero, List.set_cons_succ]
              have hyx : gy ≠ gx := by first | exact hxy | exact hxy.symm
              have hbx : b ≠ gx := by omega
              have hby : b ≠ gy := by omega
              clear hxy
              refine wpAnyH_ready (rs := [11]) (by kernel_rfl) (by simp) ?_
              refine AllReadyH.cons rfl (fun K hK => ?_) AllReadyH.nil
              (try simp only [List.getElem_toArray, List.getElem_cons_succ, List.getElem_cons_zero])
              go_simp
              have hG := setRow_grown wzabcd gx (vv (stabF dn M))
              refine hK.out _ _ ⟨⟨grown_new hG hHeld.1.2.1 (Nat.le_of_lt hgx) hHeld.1.1, Nat.le_trans hHeld.1.2.1 hG.size, Nat.lt_of_lt_of_le hHeld.1.2.2 hG.size⟩, grown_blk hG (Nat.ne_of_lt hgx) hHeld.2.1, grown_blk hG (blk_ne hX hHeld.2.2.1).symm hHeld.2.2.1, hG.cell hHeld.2.2.2.1 (fun e => hbx (by simpa using e)), rowN_grown hG hbx hHeld.2.2.2.2⟩ (fun hNew => ?_)
              replace hX : blk (wzabcd.setRow gx (vv (stabF dn M))) gx = some (.cells (vv (stabF dn M)) 23) := by rw [blk_setRow, if_pos rfl, hX]
              replace hY := grown_blk hG hyx hY
              clear hK K hHeld hG
              have hHeld := hNew; clear hNew
              try simp only [List.getElem_toArray, List.getElem_cons_succ, List.getElem_cons_zero, Act.put, List.setIfInBounds_toArray, List.set_cons_zero, List.set_cons_succ]
              generalize wzabcd.setRow gx (vv (stabF dn M)) = wzabcdx at hX hY hHeld ⊢
              refine wpAnyH_ready (rs := [12]) (by kernel_rfl) (by simp) ?_
              refine AllReadyH.cons rfl (fun K hK => ?_) AllReadyH.nil
              (try simp only [List.getElem_toArray, List.getElem_cons_succ, List.getElem_cons_zero])
              go_simp
              have hG := setRow_grown wzabcdx gy (vv (rowF dn M r))
              refine hK.out _ _ ⟨⟨grown_new hG hHeld.1.2.1 (Nat.le_of_lt hgy) hHeld.1.1, Nat.le_trans hHeld.1.2.1 hG.size, Nat.lt_of_lt_of_le hHeld.1.2.2 hG.size⟩, grown_blk hG (Nat.ne_of_lt hgy) hHeld.2.1, grown_blk hG (blk_ne hY hHeld.2.2.1).symm hHeld.2.2.1, hG.cell hHeld.2.2.2.1 (fun e => hby (by simpa using e)), rowN_grown hG hby hHeld.2.2.2.2⟩ (fun hNew => ?_)
              replace hY : blk (wzabcdx.setRow gy (vv (rowF dn M r))) gy = some (.cells (vv (rowF dn M r)) 23) := by rw [blk_setRow, if_pos rfl, hY]
              replace hX := grown_blk hG hyx.symm hX
              clear hK K hHeld hG
              have hHeld := hNew; clear hNew
              try simp only [List.getElem_toArray, List.getElem_cons_succ, List.getElem_cons_zero, Act.put, List.setIfInBounds_toArray, List.set_cons_zero, List.set_cons_succ]
              generalize wzabcdx.setRow gy (vv (rowF dn M r)) = wzabcdxy at hX hY hHeld ⊢
              refine wpAnyH_done (by kernel_rfl) ?_ _
              clear hbx hby
              exact hcont.out gx gy wzabcdxy hgx hgy hyx hX hY hHeld
      · go_simp
        have hgx : g5 < wz.heap.size := VBox.lt hHeld.2.1
        have hB := (Below.refl wz.heap.size wz).alloc (Nat.le_refl _) (Obj.cells (vv z0) 23)
        refine hK.out _ _ ⟨⟨gbel hB hHeld.1.1 hHeld.1.2.1, Nat.le_trans hHeld.1.2.1 hB.size, Nat.lt_of_lt_of_le hHeld.1.2.2 hB.size⟩, gblk hB hHeld.2.1, gblk hB hHeld.2.2.1, gcell hB hHeld.2.2.2.1, rowN_keep hB hHeld.2.2.2.2⟩ (fun hNew => ?_)
        have hX := gblk_new wz (Obj.cells (vv z0) 23)
        clear hK K hHeld hB
        have hHeld := hNew; clear hNew
        try simp only [List.getElem_toArray, List.getElem_cons_succ, List.getElem_cons_zero, Act.put, List.setIfInBounds_toArray, List.set_cons_zero, List.set_cons_succ]
        generalize wz.alloc (Obj.cells (vv z0) 23) = wza at hX hHeld ⊢
        generalize wz.heap.size = gx at hX hgx ⊢
        refine wpAnyH_ready (rs := [1, 10]) (by kernel_rfl) (by simp) ?_
        refine AllReadyH.cons rfl (fun K hK => ?_) (AllReadyH.cons rfl (fun K hK => ?_) (AllReadyH.nil))
        · go_simp
          refine Calls.mono (mstable_any gm dn M _ ⟨by omega, hdn.2⟩ hHeld.2.2.1) ?_; rintro x wzab ⟨rfl, hb'⟩
          refine hK.out _ _ ⟨⟨gbel hb' hHeld.1.1 hHeld.1.2.1, Nat.le_trans hHeld.1.2.1 hb'.size, Nat.lt_of_lt_of_le hHeld.1.2.2 hb'.size⟩, gblk hb' hHeld.2.1, gblk hb' hHeld.2.2.1, gcell hb' hHeld.2.2.2.1, rowN_keep hb' hHeld.2.2.2.2⟩ (fun hNew => ?_)
          replace hX := gblk hb' hX
          clear hK K hHeld hb'
          have hHeld := hNew; clear hNew
          try simp only [List.getElem_toArray, List.getElem_cons_succ, List.getElem_cons_zero, Act.put, List.setIfInBounds_toArray, List.set_cons_zero, List.set_cons_succ]
          refine wpAnyH_ready (rs := [8, 10]) (by kernel_rfl) (by simp) ?_
          refine AllReadyH.cons rfl (fun K hK => ?_) (AllReadyH.cons rfl (fun K hK => ?_) (AllReadyH.nil))
          · go_simp
            refine Calls.mono (mrow_any gm dn r M _ hdn.2 hHeld.2.2.1) ?_; rintro x wzabc ⟨rfl, hb'⟩
            refine hK.out _ _ ⟨⟨gbel hb' hHeld.1.1 hHeld.1.2.1, Nat.le_trans hHeld.1.2.1 hb'.size, Nat.lt_of_lt_of_le hHeld.1.2.2 hb'.size⟩, gblk hb' hHeld.2.1, gblk hb' hHeld.2.2.1, gcell hb' hHeld.2.2.2.1, rowN_keep hb' hHeld.2.2.2.2⟩ (fun hNew => ?_)
            replace hX := gblk hb' hX
            clear hK K hHeld hb'
            have hHeld := hNew; clear hNew
            try simp only [List.getElem_toArray, List.getElem_cons_succ, List.getElem_cons_zero, Act.put, List.setIfInBounds_toArray, List.set_cons_zero, List.set_cons_succ]
            refine wpAnyH_ready (rs := [10]) (by kernel_rfl) (by simp) ?_
            refine AllReadyH.cons rfl (fun K hK => ?_) (AllReadyH.nil)
            · go_simp
              have hgy : g5 < wzabc.heap.size := VBox.lt hHeld.2.1
              have hB := (Below.refl wzabc.heap.size wzabc).alloc (Nat.le_refl _) (Obj.cells (vv z0) 23)
              refine hK.out _ _ ⟨⟨gbel hB hHeld.1.1 hHeld.1.2.1, Nat.le_trans hHeld.1.2.1 hB.size, Nat.lt_of_lt_of_le hHeld.1.2.2 hB.size⟩, gblk hB hHeld.2.1, gblk hB hHeld.2.2.1, gcell hB hHeld.2.2.2.1, rowN_keep hB hHeld.2.2.2.2⟩ (fun hNew => ?_)
              have hY := gblk_new wzabc (Obj.cells (vv z0) 23)
              have hxy : gx ≠ wzabc.heap.size := Nat.ne_of_lt (VBox.lt hX)
              replace hX := gblk hB hX
              clear hK K hHeld hB
              have hHeld := hNew; clear hNew
              try simp only [List.getElem_toArray, List.getElem_cons_succ, List.getElem_cons_zero, Act.put, List.setIfInBounds_toArray, List.set_cons_zero, List.set_cons_succ]
              generalize wzabc.alloc (Obj.cells (vv z0) 23) = wzabcd at hX hY hHeld ⊢
              generalize wzabc.heap.size = gy at hY hgy hxy ⊢
              have hyx : gy ≠ gx := by first | exact hxy | exact hxy.symm
              have hbx : b ≠ gx := by omega
              have hby : b ≠ gy := by omega
              clear hxy
              refine wpAnyH_ready (rs := [11]) (by kernel_rfl) (by simp) ?_
              refine AllReadyH.cons rfl (fun K hK => ?_) AllReadyH.nil
              (try simp only [List.getElem_toArray, List.getElem_cons_succ, List.getElem_cons_zero])
              go_simp
              have hG := setRow_grown wzabcd gx (vv (stabF dn M))
              refine hK.out _ _ ⟨⟨grown_new hG hHeld.1.2.1 (Nat.le_of_lt hgx) hHeld.1.1, Nat.le_trans hHeld.1.2.1 hG.size, Nat.lt_of_lt_of_le hHeld.1.2.2 hG.size⟩, grown_blk hG (Nat.ne_of_lt hgx) hHeld.2.1, grown_blk hG (blk_ne hX hHeld.2.2.1).symm hHeld.2.2.1, hG.cell hHeld.2.2.2.1 (fun e => hbx (by simpa using e)), rowN_grown hG hbx hHeld.2.2.2.2⟩ (fun hNew => ?_)
              replace hX : blk (wzabcd.setRow gx (vv (stabF dn M))) gx = some (.cells (vv (stabF dn M)) 23) := by rw [blk_setRow, if_pos rfl, hX]
              replace hY := grown_blk hG hyx hY
              clear hK K hHeld hG
              have hHeld := hNew; clear hNew
              try simp only [List.getElem_toArray, List.getElem_cons_succ, List.getElem_cons_zero, Act.put, List.setIfInBounds_toArray, List.set_cons_zero, List.set_cons_succ]
              generalize wzabcd.setRow gx (vv (stabF dn M)) = wzabcdx at hX hY hHeld ⊢
              refine wpAnyH_ready (rs := [12]) (by kernel_rfl) (by simp) ?_
              refine AllReadyH.cons rfl (fun K hK => ?_) AllReadyH.nil
              (try simp only [List.getElem_toArray, List.getElem_cons_succ, List.getElem_cons_zero])
              go_simp
              have hG := setRow_grown wzabcdx gy (vv (rowF dn M r))
              refine hK.out _ _ ⟨⟨grown_new hG hHeld.1.2.1 (Nat.le_of_lt hgy) hHeld.1.1, Nat.le_trans hHeld.1.2.1 hG.size, Nat.lt_of_lt_of_le hHeld.1.2.2 hG.size⟩, grown_blk hG (Nat.ne_of_lt hgy) hHeld.2.1, grown_blk hG (blk_ne hY hHeld.2.2.1).symm hHeld.2.2.1, hG.cell hHeld.2.2.2.1 (fun e => hby (by simpa using e)), rowN_grown hG hby hHeld.2.2.2.2⟩ (fun hNew => ?_)
              replace hY : blk (wzabcdx.setRow gy (vv (rowF dn M r))) gy = some (.cells (vv (rowF dn M r)) 23) := by rw [blk_setRow, if_pos rfl, hY]
              replace hX := grown_blk hG hyx.symm hX
              clear hK K hHeld hG
              have hHeld := hNew; clear hNew
              try simp only [List.getElem_toArray, List.getElem_cons_succ, List.getElem_cons_zero, Act.put, List.setIfInBounds_toArray, List.set_cons_zero, List.set_cons_succ]
              generalize wzabcdx.setRow gy (vv (rowF dn M r)) = wzabcdxy at hX hY hHeld ⊢
              refine wpAnyH_done (by kernel_rfl) ?_ _
              clear hbx hby
              exact hcont.out gx gy wzabcdxy hgx hgy hyx hX hY hHeld
          · go_simp
            have hgy : g5 < wzab.heap.size := VBox.lt hHeld.2.1
            have hB := (Below.refl wzab.heap.size wzab).alloc (Nat.le_refl _) (Obj.cells (vv z0) 23)
            refine hK.out _ _ ⟨⟨gbel hB hHeld.1.1 hHeld.1.2.1, Nat.le_trans hHeld.1.2.1 hB.size, Nat.lt_of_lt_of_le hHeld.1.2.2 hB.size⟩, gblk hB hHeld.2.1, gblk hB hHeld.2.2.1, gcell hB hHeld.2.2.2.1, rowN_keep hB hHeld.2.2.2.2⟩ (fun hNew => ?_)
            have hY := gblk_new wzab (Obj.cells (vv z0) 23)
            have hxy : gx ≠ wzab.heap.size := Nat.ne_of_lt (VBox.lt hX)
            replace hX := gblk hB hX
            clear hK K hHeld hB
            have hHeld := hNew; clear hNew
            try simp only [List.getElem_toArray, List.getElem_cons_succ, List.getElem_cons_zero, Act.put, List.setIfInBounds_toArray, List.set_cons_zero, List.set_cons_succ]
            generalize wzab.alloc (Obj.cells (vv z0) 23) = wzabc at hX hY hHeld ⊢
            generalize wzab.heap.size = gy at hY hgy hxy ⊢
            refine wpAnyH_ready (rs := [8]) (by kernel_rfl) (by simp) ?_
            refine AllReadyH.cons rfl (fun K hK => ?_) (AllReadyH.nil)
            · go_simp
              refine Calls.mono (mrow_any gm dn r M _ hdn.2 hHeld.2.2.1) ?_; rintro x wzabcd ⟨rfl, hb'⟩
              refine hK.out _ _ ⟨⟨gbel hb' hHeld.1.1 hHeld.1.2.1, Nat.le_trans hHeld.1.2.1 hb'.size, Nat.lt_of_lt_of_le hHeld.1.2.2 hb'.size⟩, gblk hb' hHeld.2.1, gblk hb' hHeld.2.2.1, gcell hb' hHeld.2.2.2.1, rowN_keep hb' hHeld.2.2.2.2⟩ (fun hNew => ?_)
              replace hX := gblk hb' hX
              replace hY := gblk hb' hY
              clear hK K hHeld hb'
              have hHeld := hNew; clear hNew
              try simp only [List.getElem_toArray, List.getElem_cons_succ, List.getElem_cons_zero, Act.put, List.setIfInBounds_toArray, List.set_cons_zero, List.set_cons_succ]
              have hyx : gy ≠ gx := by first | exact hxy | exact hxy.symm
              have hbx : b ≠ gx := by omega
              have hby : b ≠ gy := by omega
              clear hxy
              refine wpAnyH_ready (rs := [11]) (by kernel_rfl) (by simp) ?_
              refine AllReadyH.cons rfl (fun K hK => ?_) AllReadyH.nil
              (try simp only [List.getElem_toArray, List.getElem_cons_succ, List.getElem_cons_zero])
              go_simp
              have hG := setRow_grown wzabcd gx (vv (stabF dn M))
              refine hK.out _ _ ⟨⟨grown_new hG hHeld.1.2.1 (Nat.le_of_lt hgx) hHeld.1.1, Nat.le_trans hHeld.1.2.1 hG.size, Nat.lt_of_lt_of_le hHeld.1.2.2 hG.size⟩, grown_blk hG (Nat.ne_of_lt hgx) hHeld.2.1, grown_blk hG (blk_ne hX hHeld.2.2.1).symm hHeld.2.2.1, hG.cell hHeld.2.2.2.1 (fun e => hbx (by simpa using e)), rowN_grown hG hbx hHeld.2.2.2.2⟩ (fun hNew => ?_)
              replace hX : blk (wzabcd.setRow gx (vv (stabF dn M))) gx = some (.cells (vv (stabF dn M)) 23) := by rw [blk_setRow, if_pos rfl, hX]
              replace hY := grown_blk hG hyx hY
              clear hK K hHeld hG
              have hHeld := hNew; clear hNew
              try simp only [List.getElem_toArray, List.getElem_cons_succ, List.getElem_cons_zero, Act.put, List.setIfInBounds_toArray, List.set_cons_zero, List.set_cons_succ]
              generalize wzabcd.setRow gx (vv (stabF dn M)) = wzabcdx at hX hY hHeld ⊢
              refine wpAnyH_ready (rs := [12]) (by kernel_rfl) (by simp) ?_
              refine AllReadyH.cons rfl (fun K hK => ?_) AllReadyH.nil
              (try simp only [List.getElem_toArray, List.getElem_cons_succ, List.getElem_cons_zero])
              go_simp
              have hG := setRow_grown wzabcdx gy (vv (rowF dn M r))
              refine hK.out _ _ ⟨⟨grown_new hG hHeld.1.2.1 (Nat.le_of_lt hgy) hHeld.1.1, Nat.le_trans hHeld.1.2.1 hG.size, Nat.lt_of_lt_of_le hHeld.1.2.2 hG.size⟩, grown_blk hG (Nat.ne_of_lt hgy) hHeld.2.1, grown_blk hG (blk_ne hY hHeld.2.2.1).symm hHeld.2.2.1, hG.cell hHeld.2.2.2.1 (fun e => hby (by simpa using e)), rowN_grown hG hby hHeld.2.2.2.2⟩ (fun hNew => ?_)
              replace hY : blk (wzabcdx.setRow gy (vv (rowF dn M r))) gy = some (.cells (vv (rowF dn M r)) 23) := by rw [blk_setRow, if_pos rfl, hY]
              replace hX := grown_blk hG hyx.symm hX
              clear hK K hHeld hG
              have hHeld := hNew; clear hNew
              try simp only [List.getElem_toArray, List.getElem_cons_succ, List.getElem_cons_zero, Act.put, List.setIfInBounds_toArray, List.set_cons_zero, List.set_cons_succ]
              generalize wzabcdx.setRow gy (vv (rowF dn M r)) = wzabcdxy at hX hY hHeld ⊢
              refine wpAnyH_done (by kernel_rfl) ?_ _
              clear hbx hby
              exact hcont.out gx gy wzabcdxy hgx hgy hyx hX hY hHeld
        · go_simp
          have hgy : g5 < wza.heap.size := VBox.lt hHeld.2.1
          have hB := (Below.refl wza.heap.size wza).alloc (Nat.le_refl _) (Obj.cells (vv z0) 23)
          refine hK.out _ _ ⟨⟨gbel hB hHeld.1.1 hHeld.1.2.1, Nat.le_trans hHeld.1.2.1 hB.size, Nat.lt_of_lt_of_le hHeld.1.2.2 hB.size⟩, gblk hB hHeld.2.1, gblk hB hHeld.2.2.1, gcell hB hHeld.2.2.2.1, rowN_keep hB hHeld.2.2.2.2⟩ (fun hNew => ?_)
          have hY := gblk_new wza (Obj.cells (vv z0) 23)
          have hxy : gx ≠ wza.heap.size := Nat.ne_of_lt (VBox.lt hX)
          replace hX := gblk hB hX
          clear hK K hHeld hB
          have hHeld := hNew; clear hNew
          try simp only [List.getElem_toArray, List.getElem_cons_succ, List.getElem_cons_zero, Act.put, List.setIfInBounds_toArray, List.set_cons_zero, List.set_cons_succ]
          generalize wza.alloc (Obj.cells (vv z0) 23) = wzab at hX hY hHeld ⊢
          generalize wza.heap.size = gy at hY hgy hxy ⊢
          refine wpAnyH_ready (rs := [1]) (by kernel_rfl) (by simp) ?_
          refine AllReadyH.cons rfl (fun K hK => ?_) (AllReadyH.nil)
          · go_simp
            refine Calls.mono (mstable_any gm dn M _ ⟨by omega, hdn.2⟩ hHeld.2.2.1) ?_; rintro x wzabc ⟨rfl, hb'⟩
            refine hK.out _ _ ⟨⟨gbel hb' hHeld.1.1 hHeld.1.2.1, Nat.le_trans hHeld.1.2.1 hb'.size, Nat.lt_of_lt_of_le hHeld.1.2.2 hb'.size⟩, gblk hb' hHeld.2.1, gblk hb' hHeld.2.2.1, gcell hb' hHeld.2.2.2.1, rowN_keep hb' hHeld.2.2.2.2⟩ (fun hNew => ?_)
            replace hX := gblk hb' hX
            replace hY := gblk hb' hY
            clear hK K hHeld hb'
            have hHeld := hNew; clear hNew
            try simp only [List.getElem_toArray, List.getElem_cons_succ, List.getElem_cons_zero, Act.put, List.setIfInBounds_toArray, List.set_cons_zero, List.set_cons_succ]
            refine wpAnyH_ready (rs := [8]) (by kernel_rfl) (by simp) ?_
            refine AllReadyH.cons rfl (fun K hK => ?_) (AllReadyH.nil)
            · go_simp
              refine Calls.mono (mrow_any gm dn r M _ hdn.2 hHeld.2.2.1) ?_; rintro x wzabcd ⟨rfl, hb'⟩
              refine hK.out _ _ ⟨⟨gbel hb' hHeld.1.1 hHeld.1.2.1, Nat.le_trans hHeld.1.2.1 hb'.size, Nat.lt_of_lt_of_le hHeld.1.2.2 hb'.size⟩, gblk hb' hHeld.2.1, gblk hb' hHeld.2.2.1, gcell hb' hHeld.2.2.2.1, rowN_keep hb' hHeld.2.2.2.2⟩ (fun hNew => ?_)
              replace hX := gblk hb' hX
              replace hY := gblk hb' hY
              clear hK K hHeld hb'
              have hHeld := hNew; clear hNew
              try simp only [List.getElem_toArray, List.getElem_cons_succ, List.getElem_cons_zero, Act.put, List.setIfInBounds_toArray, List.set_cons_zero, List.set_cons_succ]
              have hyx : gy ≠ gx := by first | exact hxy | exact hxy.symm
              have hbx : b ≠ gx := by omega
              have hby : b ≠ gy := by omega
              clear hxy
              refine wpAnyH_ready (rs := [11]) (by kernel_rfl) (by simp) ?_
              refine AllReadyH.cons rfl (fun K hK => ?_) AllReadyH.nil
              (try simp only [List.getElem_toArray, List.getElem_cons_succ, List.getElem_cons_zero])
              go_simp
              have hG := setRow_grown wzabcd gx (vv (stabF dn M))
              refine hK.out _ _ ⟨⟨grown_new hG hHeld.1.2.1 (Nat.le_of_lt hgx) hHeld.1.1, Nat.le_trans hHeld.1.2.1 hG.size, Nat.lt_of_lt_of_le hHeld.1.2.2 hG.size⟩, grown_blk hG (Nat.ne_of_lt hgx) hHeld.2.1, grown_blk hG (blk_ne hX hHeld.2.2.1).symm hHeld.2.2.1, hG.cell hHeld.2.2.2.1 (fun e => hbx (by simpa using e)), rowN_grown hG hbx hHeld.2.2.2.2⟩ (fun hNew => ?_)
              replace hX : blk (wzabcd.setRow gx (vv (stabF dn M))) gx = some (.cells (vv (stabF dn M)) 23) := by rw [blk_setRow, if_pos rfl, hX]
              replace hY := grown_blk hG hyx hY
              clear hK K hHeld hG
              have hHeld := hNew; clear hNew
              try simp only [List.getElem_toArray, List.getElem_cons_succ, List.getElem_cons_zero, Act.put, List.setIfInBounds_toArray, List.set_cons_zero, List.set_cons_succ]
              generalize wzabcd.setRow gx (vv (stabF dn M)) = wzabcdx at hX hY hHeld ⊢
              refine wpAnyH_ready (rs := [12]) (by kernel_rfl) (by simp) ?_
              refine AllReadyH.cons rfl (fun K hK => ?_) AllReadyH.nil
              (try simp only [List.getElem_toArray, List.getElem_cons_succ, List.getElem_cons_zero])
              go_simp
              have hG := setRow_grown wzabcdx gy (vv (rowF dn M r))
              refine hK.out _ _ ⟨⟨grown_new hG hHeld.1.2.1 (Nat.le_of_lt hgy) hHeld.1.1, Nat.le_trans hHeld.1.2.1 hG.size, Nat.lt_of_lt_of_le hHeld.1.2.2 hG.size⟩, grown_blk hG (Nat.ne_of_lt hgy) hHeld.2.1, grown_blk hG (blk_ne hY hHeld.2.2.1).symm hHeld.2.2.1, hG.cell hHeld.2.2.2.1 (fun e => hby (by simpa using e)), rowN_grown hG hby hHeld.2.2.2.2⟩ (fun hNew => ?_)
              replace hY : blk (wzabcdx.setRow gy (vv (rowF dn M r))) gy = some (.cells (vv (rowF dn M r)) 23) := by rw [blk_setRow, if_pos rfl, hY]
              replace hX := grown_blk hG hyx.symm hX
              clear hK K hHeld hG
              have hHeld := hNew; clear hNew
              try simp only [List.getElem_toArray, List.getElem_cons_succ, List.getElem_cons_zero, Act.put, List.setIfInBounds_toArray, List.set_cons_zero, List.set_cons_succ]
              generalize wzabcdx.setRow gy (vv (rowF dn M r)) = wzabcdxy at hX hY hHeld ⊢
              refine wpAnyH_done (by kernel_rfl) ?_ _
              clear hbx hby
              exact hcont.out gx gy wzabcdxy hgx hgy hyx hX hY hHeld
      · go_simp
        have hgy : g5 < wz.heap.size := VBox.lt hHeld.2.1
        have hB := (Below.refl wz.heap.size wz).alloc (Nat.le_refl _) (Obj.cells (vv z0) 23)
        refine hK.out _ _ ⟨⟨gbel hB hHeld.1.1 hHeld.1.2.1, Nat.le_trans hHeld.1.2.1 hB.size, Nat.lt_of_lt_of_le hHeld.1.2.2 hB.size⟩, gblk hB hHeld.2.1, gblk hB hHeld.2.2.1, gcell hB hHeld.2.2.2.1, rowN_keep hB hHeld.2.2.2.2⟩ (fun hNew => ?_)
        have hY := gblk_new wz (Obj.cells (vv z0) 23)
        clear hK K hHeld hB
        have hHeld := hNew; clear hNew
        try simp only [List.getElem_toArray, List.getElem_cons_succ, List.getElem_cons_zero, Act.put, List.setIfInBounds_toArray, List.set_cons_zero, List.set_cons_succ]
        generalize wz.alloc (Obj.cells (vv z0) 23) = wza at hY hHeld ⊢
        generalize wz.heap.size = gy at hY hgy ⊢
        refine wpAnyH_ready (rs := [1, 9]) (by kernel_rfl) (by simp) ?_
        refine AllReadyH.cons rfl (fun K hK => ?_) (AllReadyH.cons rfl (fun K hK => ?_) (AllReadyH.nil))
        · go_simp
          refine Calls.mono (mstable_any gm dn M _ ⟨by omega, hdn.2⟩ hHeld.2.2.1) ?_; rintro x wzab ⟨rfl, hb'⟩
          refine hK.out _ _ ⟨⟨gbel hb' hHeld.1.1 hHeld.1.2.1, Nat.le_trans hHeld.1.2.1 hb'.size, Nat.lt_of_lt_of_le hHeld.1.2.2 hb'.size⟩, gblk hb' hHeld.2.1, gblk hb' hHeld.2.2.1, gcell hb' hHeld.2.2.2.1, rowN_keep hb' hHeld.2.2.2.2⟩ (fun hNew => ?_)
          replace hY := gblk hb' hY
          clear hK K hHeld hb'
          have hHeld := hNew; clear hNew
          try simp only [List.getElem_toArray, List.getElem_cons_succ, List.getElem_cons_zero, Act.put, List.setIfInBounds_toArray, List.set_cons_zero, List.set_cons_succ]
          refine wpAnyH_ready (rs := [8, 9]) (by kernel_rfl) (by simp) ?_
          refine AllReadyH.cons rfl (fun K hK => ?_) (AllReadyH.cons rfl (fun K hK => ?_) (AllReadyH.nil))
          · go_simp
            refine Calls.mono (mrow_any gm dn r M _ hdn.2 hHeld.2.2.1) ?_; rintro x wzabc ⟨rfl, hb'⟩
            refine hK.out _ _ ⟨⟨gbel hb' hHeld.1.1 hHeld.1.2.1, Nat.le_trans hHeld.1.2.1 hb'.size, Nat.lt_of_lt_of_le hHeld.1.2.2 hb'.size⟩, gblk hb' hHeld.2.1, gblk hb' hHeld.2.2.1, gcell hb' hHeld.2.2.2.1, rowN_keep hb' hHeld.2.2.2.2⟩ (fun hNew => ?_)
            replace hY := gblk hb' hY
            clear hK K hHeld hb'
            have hHeld := hNew; clear hNew
            try simp only [List.getElem_toArray, List.getElem_cons_succ, List.getElem_cons_zero, Act.put, List.setIfInBounds_toArray, List.set_cons_zero, List.set_cons_succ]
            refine wpAnyH_ready (rs := [9]) (by kernel_rfl) (by simp) ?_
            refine AllReadyH.cons rfl (fun K hK => ?_) (AllReadyH.nil)
            · go_simp
              have hgx : g5 < wzabc.heap.size := VBox.lt hHeld.2.1
              have hB := (Below.refl wzabc.heap.size wzabc).alloc (Nat.le_refl _) (Obj.cells (vv z0) 23)
              refine hK.out _ _ ⟨⟨gbel hB hHeld.1.1 hHeld.1.2.1, Nat.le_trans hHeld.1.2.1 hB.size, Nat.lt_of_lt_of_le hHeld.1.2.2 hB.size⟩, gblk hB hHeld.2.1, gblk hB hHeld.2.2.1, gcell hB hHeld.2.2.2.1, rowN_keep hB hHeld.2.2.2.2⟩ (fun hNew => ?_)
              have hX := gblk_new wzabc (Obj.cells (vv z0) 23)
              have hxy : gy ≠ wzabc.heap.size := Nat.ne_of_lt (VBox.lt hY)
              replace hY := gblk hB hY
              clear hK K hHeld hB
              have hHeld := hNew; clear hNew
              try simp only [List.getElem_toArray, List.getElem_cons_succ, List.getElem_cons_zero, Act.put, List.setIfInBounds_toArray, List.set_cons_zero, List.set_cons_succ]
              generalize wzabc.alloc (Obj.cells (vv z0) 23) = wzabcd at hX hY hHeld ⊢
              generalize wzabc.heap.size = gx at hX hgx hxy ⊢
              have hyx : gy ≠ gx := by first | exact hxy | exact hxy.symm
              have hbx : b ≠ gx := by omega
              have hby : b ≠ gy := by omega
              clear hxy
              refine wpAnyH_ready (rs := [11]) (by kernel_rfl) (by simp) ?_
              refine AllReadyH.cons rfl (fun K hK => ?_) AllReadyH.nil
              (try simp only [List.getElem_toArray, List.getElem_cons_succ, List.getElem_cons_zero])
              go_simp
              have hG := setRow_grown wzabcd gx (vv (stabF dn M))
              refine hK.out _ _ ⟨⟨grown_new hG hHeld.1.2.1 (Nat.le_of_lt hgx) hHeld.1.1, Nat.le_trans hHeld.1.2.1 hG.size, Nat.lt_of_lt_of_le hHeld.1.2.2 hG.size⟩, grown_blk hG (Nat.ne_of_lt hgx) hHeld.2.1, grown_blk hG (blk_ne hX hHeld.2.2.1).symm hHeld.2.2.1, hG.cell hHeld.2.2.2.1 (fun e => hbx (by simpa using e)), rowN_grown hG hbx hHeld.2.2.2.2⟩ (fun hNew => ?_)
              replace hX : blk (wzabcd.setRow gx (vv (stabF dn M))) gx = some (.cells (vv (stabF dn M)) 23) := by rw [blk_setRow, if_pos rfl, hX]
              replace hY := grown_blk hG hyx hY
              clear hK K hHeld hG
              have hHeld := hNew; clear hNew
              try simp only [List.getElem_toArray, List.getElem_cons_succ, List.getElem_cons_zero, Act.put, List.setIfInBounds_toArray, List.set_cons_zero, List.set_cons_succ]
              generalize wzabcd.setRow gx (vv (stabF dn M)) = wzabcdx at hX hY hHeld ⊢
              refine wpAnyH_ready (rs := [12]) (by kernel_rfl) (by simp) ?_
              refine AllReadyH.cons rfl (fun K hK => ?_) AllReadyH.nil
              (try simp only [List.getElem_toArray, List.getElem_cons_succ, List.getElem_cons_zero])
              go_simp
              have hG := setRow_grown wzabcdx gy (vv (rowF dn M r))
              refine hK.out _ _ ⟨⟨grown_new hG hHeld.1.2.1 (Nat.le_of_lt hgy) hHeld.1.1, Nat.le_trans hHeld.1.2.1 hG.size, Nat.lt_of_lt_of_le hHeld.1.2.2 hG.size⟩, grown_blk hG (Nat.ne_of_lt hgy) hHeld.2.1, grown_blk hG (blk_ne hY hHeld.2.2.1).symm hHeld.2.2.1, hG.cell hHeld.2.2.2.1 (fun e => hby (by simpa using e)), rowN_grown hG hby hHeld.2.2.2.2⟩ (fun hNew => ?_)
              replace hY : blk (wzabcdx.setRow gy (vv (rowF dn M r))) gy = some (.cells (vv (rowF dn M r)) 23) := by rw [blk_setRow, if_pos rfl, hY]
              replace hX := grown_blk hG hyx.symm hX
              clear hK K hHeld hG
              have hHeld := hNew; clear hNew
              try simp only [List.getElem_toArray, List.getElem_cons_succ, List.getElem_cons_zero, Act.put, List.setIfInBounds_toArray, List.set_cons_zero, List.set_cons_succ]
              generalize wzabcdx.setRow gy (vv (rowF dn M r)) = wzabcdxy at hX hY hHeld ⊢
              refine wpAnyH_done (by kernel_rfl) ?_ _
              clear hbx hby
              exact hcont.out gx gy wzabcdxy hgx hgy hyx hX hY hHeld
          · go_simp
            have hgx : g5 < wzab.heap.size := VBox.lt hHeld.2.1
            have hB := (Below.refl wzab.heap.size wzab).alloc (Nat.le_refl _) (Obj.cells (vv z0) 23)
            refine hK.out _ _ ⟨⟨gbel hB hHeld.1.1 hHeld.1.2.1, Nat.le_trans hHeld.1.2.1 hB.size, Nat.lt_of_lt_of_le hHeld.1.2.2 hB.size⟩, gblk hB hHeld.2.1, gblk hB hHeld.2.2.1, gcell hB hHeld.2.2.2.1, rowN_keep hB hHeld.2.2.2.2⟩ (fun hNew => ?_)
            have hX := gblk_new wzab (Obj.cells (vv z0) 23)
            have hxy : gy ≠ wzab.heap.size := Nat.ne_of_lt (VBox.lt hY)
            replace hY := gblk hB hY
            clear hK K hHeld hB
            have hHeld := hNew; clear hNew
            try simp only [List.getElem_toArray, List.getElem_cons_succ, List.getElem_cons_zero, Act.put, List.setIfInBounds_toArray, List.set_cons_zero, List.set_cons_succ]
            generalize wzab.alloc (Obj.cells (vv z0) 23) = wzabc at hX hY hHeld ⊢
            generalize wzab.heap.size = gx at hX hgx hxy ⊢
            refine wpAnyH_ready (rs := [8]) (by kernel_rfl) (by simp) ?_
            refine AllReadyH.cons rfl (fun K hK => ?_) (AllReadyH.nil)
            · go_simp
              refine Calls.mono (mrow_any gm dn r M _ hdn.2 hHeld.2.2.1) ?_; rintro x wzabcd ⟨rfl, hb'⟩
              refine hK.out _ _ ⟨⟨gbel hb' hHeld.1.1 hHeld.1.2.1, Nat.le_trans hHeld.1.2.1 hb'.size, Nat.lt_of_lt_of_le hHeld.1.2.2 hb'.size⟩, gblk hb' hHeld.2.1, gblk hb' hHeld.2.2.1, gcell hb' hHeld.2.2.2.1, rowN_keep hb' hHeld.2.2.2.2⟩ (fun hNew => ?_)
              replace hX := gblk hb' hX
              replace hY := gblk hb' hY
              clear hK K hHeld hb'
              have hHeld := hNew; clear hNew
              try simp only [List.getElem_toArray, List.getElem_cons_succ, List.getElem_cons_zero, Act.put, List.setIfInBounds_toArray, List.set_cons_zero, List.set_cons_succ]
              have hyx : gy ≠ gx := by first | exact hxy | exact hxy.symm
              have hbx : b ≠ gx := by omega
              have hby : b ≠ gy := by omega
              clear hxy
              refine wpAnyH_ready (rs := [11]) (by kernel_rfl) (by simp) ?_
              refine AllReadyH.cons rfl (fun K hK => ?_) AllReadyH.nil
              (try simp only [List.getElem_toArray, List.getElem_cons_succ, List.getElem_cons_zero])
              go_simp
              have hG := setRow_grown wzabcd gx (vv (stabF dn M))
              refine hK.out _ _ ⟨⟨grown_new hG hHeld.1.2.1 (Nat.le_of_lt hgx) hHeld.1.1, Nat.le_trans hHeld.1.2.1 hG.size, Nat.lt_of_lt_of_le hHeld.1.2.2 hG.size⟩, grown_blk hG (Nat.ne_of_lt hgx) hHeld.2.1, grown_blk hG (blk_ne hX hHeld.2.2.1).symm hHeld.2.2.1, hG.cell hHeld.2.2.2.1 (fun e => hbx (by simpa using e)), rowN_grown hG hbx hHeld.2.2.2.2⟩ (fun hNew => ?_)
              replace hX : blk (wzabcd.setRow gx (vv (stabF dn M))) gx = some (.cells (vv (stabF dn M)) 23) := by rw [blk_setRow, if_pos rfl, hX]
              replace hY := grown_blk hG hyx hY
              clear hK K hHeld hG
              have hHeld := hNew; clear hNew
              try simp only [List.getElem_toArray, List.getElem_cons_succ, List.getElem_cons_zero, Act.put, List.setIfInBounds_toArray, List.set_cons_zero, List.set_cons_succ]
              generalize wzabcd.setRow gx (vv (stabF dn M)) = wzabcdx at hX hY hHeld ⊢
              refine wpAnyH_ready (rs := [12]) (by kernel_rfl) (by simp) ?_
              refine AllReadyH.cons rfl (fun K hK => ?_) AllReadyH.nil
              (try simp only [List.getElem_toArray, List.getElem_cons_succ, List.getElem_cons_zero])
              go_simp
              have hG := setRow_grown wzabcdx gy (vv (rowF dn M r))
              refine hK.out _ _ ⟨⟨grown_new hG hHeld.1.2.1 (Nat.le_of_lt hgy) hHeld.1.1, Nat.le_trans hHeld.1.2.1 hG.size, Nat.lt_of_lt_of_le hHeld.1.2.2 hG.size⟩, grown_blk hG (Nat.ne_of_lt hgy) hHeld.2.1, grown_blk hG (blk_ne hY hHeld.2.2.1).symm hHeld.2.2.1, hG.cell hHeld.2.2.2.1 (fun e => hby (by simpa using e)), rowN_grown hG hby hHeld.2.2.2.2⟩ (fun hNew => ?_)
              replace hY : blk (wzabcdx.setRow gy (vv (rowF dn M r))) gy = some (.cells (vv (rowF dn M r)) 23) := by rw [blk_setRow, if_pos rfl, hY]
              replace hX := grown_blk hG hyx.symm hX
              clear hK K hHeld hG
              have hHeld := hNew; clear hNew
              try simp only [List.getElem_toArray, List.getElem_cons_succ, List.getElem_cons_zero, Act.put, List.setIfInBounds_toArray, List.set_cons_zero, List.set_cons_succ]
              generalize wzabcdx.setRow gy (vv (rowF dn M r)) = wzabcdxy at hX hY hHeld ⊢
              refine wpAnyH_done (by kernel_rfl) ?_ _
              clear hbx hby
              exact hcont.out gx gy wzabcdxy hgx hgy hyx hX hY hHeld
        · go_simp
          have hgx : g5 < wza.heap.size := VBox.lt hHeld.2.1
          have hB := (Below.refl wza.heap.size wza).alloc (Nat.le_refl _) (Obj.cells (vv z0) 23)
          refine hK.out _ _ ⟨⟨gbel hB hHeld.1.1 hHeld.1.2.1, Nat.le_trans hHeld.1.2.1 hB.size, Nat.lt_of_lt_of_le hHeld.1.2.2 hB.size⟩, gblk hB hHeld.2.1, gblk hB hHeld.2.2.1, gcell hB hHeld.2.2.2.1, rowN_keep hB hHeld.2.2.2.2⟩ (fun hNew => ?_)
          have hX := gblk_new wza (Obj.cells (vv z0) 23)
          have hxy : gy ≠ wza.heap.size := Nat.ne_of_lt (VBox.lt hY)
          replace hY := gblk hB hY
          clear hK K hHeld hB
          have hHeld := hNew; clear hNew
          try simp only [List.getElem_toArray, List.getElem_cons_succ, List.getElem_cons_zero, Act.put, List.setIfInBounds_toArray, List.set_cons_zero, List.set_cons_succ]
          generalize wza.alloc (Obj.cells (vv z0) 23) = wzab at hX hY hHeld ⊢
          generalize wza.heap.size = gx at hX hgx hxy ⊢
          refine wpAnyH_ready (rs := [1]) (by kernel_rfl) (by simp) ?_
          refine AllReadyH.cons rfl (fun K hK => ?_) (AllReadyH.nil)
          · go_simp
            refine Calls.mono (mstable_any gm dn M _ ⟨by omega, hdn.2⟩ hHeld.2.2.1) ?_; rintro x wzabc ⟨rfl, hb'⟩
            refine hK.out _ _ ⟨⟨gbel hb' hHeld.1.1 hHeld.1.2.1, Nat.le_trans hHeld.1.2.1 hb'.size, Nat.lt_of_lt_of_le hHeld.1.2.2 hb'.size⟩, gblk hb' hHeld.2.1, gblk hb' hHeld.2.2.1, gcell hb' hHeld.2.2.2.1, rowN_keep hb' hHeld.2.2.2.2⟩ (fun hNew => ?_)
            replace hX := gblk hb' hX
            replace hY := gblk hb' hY
            clear hK K hHeld hb'
            have hHeld := hNew; clear hNew
            try simp only [List.getElem_toArray, List.getElem_cons_succ, List.getElem_cons_zero, Act.put, List.setIfInBounds_toArray, List.set_cons_zero, List.set_cons_succ]
            refine wpAnyH_ready (rs := [8]) (by kernel_rfl) (by simp) ?_
            refine AllReadyH.cons rfl (fun K hK => ?_) (AllReadyH.nil)
            · go_simp
              refine Calls.mono (mrow_any gm dn r M _ hdn.2 hHeld.2.2.1) ?_; rintro x wzabcd ⟨rfl, hb'⟩
              refine hK.out _ _ ⟨⟨gbel hb' hHeld.1.1 hHeld.1.2.1, Nat.le_trans hHeld.1.2.1 hb'.size, Nat.lt_of_lt_of_le hHeld.1.2.2 hb'.size⟩, gblk hb' hHeld.2.1, gblk hb' hHeld.2.2.1, gcell hb' hHeld.2.2.2.1, rowN_keep hb' hHeld.2.2.2.2⟩ (fun hNew => ?_)
              replace hX := gblk hb' hX
              replace hY := gblk hb' hY
              clear hK K hHeld hb'
              have hHeld := hNew; clear hNew
              try simp only [List.getElem_toArray, List.getElem_cons_succ, List.getElem_cons_zero, Act.put, List.setIfInBounds_toArray, List.set_cons_zero, List.set_cons_succ]
              have hyx : gy ≠ gx := by first | exact hxy | exact hxy.symm
              have hbx : b ≠ gx := by omega
              have hby : b ≠ gy := by omega
              clear hxy
              refine wpAnyH_ready (rs := [11]) (by kernel_rfl) (by simp) ?_
              refine AllReadyH.cons rfl (fun K hK => ?_) AllReadyH.nil
              (try simp only [List.getElem_toArray, List.getElem_cons_succ, List.getElem_cons_zero])
              go_simp
              have hG := setRow_grown wzabcd gx (vv (stabF dn M))
              refine hK.out _ _ ⟨⟨grown_new hG hHeld.1.2.1 (Nat.le_of_lt hgx) hHeld.1.1, Nat.le_trans hHeld.1.2.1 hG.size, Nat.lt_of_lt_of_le hHeld.1.2.2 hG.size⟩, grown_blk hG (Nat.ne_of_lt hgx) hHeld.2.1, grown_blk hG (blk_ne hX hHeld.2.2.1).symm hHeld.2.2.1, hG.cell hHeld.2.2.2.1 (fun e => hbx (by simpa using e)), rowN_grown hG hbx hHeld.2.2.2.2⟩ (fun hNew => ?_)
              replace hX : blk (wzabcd.setRow gx (vv (stabF dn M))) gx = some (.cells (vv (stabF dn M)) 23) := by rw [blk_setRow, if_pos rfl, hX]
              replace hY := grown_blk hG hyx hY
              clear hK K hHeld hG
              have hHeld := hNew; clear hNew
              try simp only [List.getElem_toArray, List.getElem_cons_succ, List.getElem_cons_zero, Act.put, List.setIfInBounds_toArray, List.set_cons_zero, List.set_cons_succ]
              generalize wzabcd.setRow gx (vv (stabF dn M)) = wzabcdx at hX hY hHeld ⊢
              refine wpAnyH_ready (rs := [12]) (by kernel_rfl) (by simp) ?_
              refine AllReadyH.cons rfl (fun K hK => ?_) AllReadyH.nil
              (try simp only [List.getElem_toArray, List.getElem_cons_succ, List.getElem_cons_zero])
              go_simp
              have hG := setRow_grown wzabcdx gy (vv (rowF dn M r))
              refine hK.out _ _ ⟨⟨grown_new hG hHeld.1.2.1 (Nat.le_of_lt hgy) hHeld.1.1, Nat.le_trans hHeld.1.2.1 hG.size, Nat.lt_of_lt_of_le hHeld.1.2.2 hG.size⟩, grown_blk hG (Nat.ne_of_lt hgy) hHeld.2.1, grown_blk hG (blk_ne hY hHeld.2.2.1).symm hHeld.2.2.1, hG.cell hHeld.2.2.2.1 (fun e => hby (by simpa using e)), rowN_grown hG hby hHeld.2.2.2.2⟩ (fun hNew => ?_)
              replace hY : blk (wzabcdx.setRow gy (vv (rowF dn M r))) gy = some (.cells (vv (rowF dn M r)) 23) := by rw [blk_setRow, if_pos rfl, hY]
              replace hX := grown_blk hG hyx.symm hX
              clear hK K hHeld hG
              have hHeld := hNew; clear hNew
              try simp only [List.getElem_toArray, List.getElem_cons_succ, List.getElem_cons_zero, Act.put, List.setIfInBounds_toArray, List.set_cons_zero, List.set_cons_succ]
              generalize wzabcdx.setRow gy (vv (rowF dn M r)) = wzabcdxy at hX hY hHeld ⊢
              refine wpAnyH_done (by kernel_rfl) ?_ _
              clear hbx hby
              exact hcont.out gx gy wzabcdxy hgx hgy hyx hX hY hHeld
      clear k0 k1 k2 c1 c2 P0 hgml hgml2
      clear wr
      intro gx gy w5 hgx hgy hyx hX hY hHeld
      have hxm : gx ≠ gm := blk_ne hX hHeld.2.2.1
      have hym : gy ≠ gm := blk_ne hY hHeld.2.2.1
      have hsm : g5 ≠ gm := blk_ne hHeld.2.1 hHeld.2.2.1
      have hbm : b ≠ gm := by omega
      have R1 := stab_rises hdn.1 M r v
      have R2 := row_rises dn M r v r
      have k0 := Lib.hid hHeld.1.1
      obtain ⟨⟨_, hs1, hs2⟩, k1, k2, c1, c2⟩ := hHeld
      go_wp2_with fail
      refine wp_region_heldK (s := 11) (S := fun w' => (Below g5 w w' ∧ g5 ≤ w'.heap.size) ∧ blk w' g5 = some (.cells (vv s) 23) ∧ MX w' gm dn M ∧ w'.cell? ⟨b, o + k * 17, none⟩ = some (.int .i64 r) ∧ rowN 16 w' b (o + k * 17 + 1) = some (vv v) ∧ blk w' gx = some (.cells (vv (stabF dn M)) 23) ∧ blk w' gy = some (.cells (vv (rowF dn M r)) 23)) (by kernel_rfl) ⟨⟨k0.out.drew, hs1⟩, k1, k2, c1, c2, hX, hY⟩ (fun hHeld => ?_)
      refine wpAnyC_take (i := 0) (v := ?_) rfl (by kernel_rfl) (by kernel_rfl) (by kernel_rfl) (by kernel_rfl) (by kernel_rfl) (by kernel_rfl) (fun _ _ _ h => h) (Or.inl ⟨by rfl, ?_⟩) hHeld ?_
      rotate_left
      · intro w hSw; (try dsimp only at hSw); (try simp only [List.getElem_toArray, List.getElem_cons_succ, List.getElem_cons_zero]); (go_simp; try with_reducible rfl)
      try simp only [List.getElem_toArray, List.getElem_cons_succ, List.getElem_cons_zero, Act.put, List.setIfInBounds_toArray, List.set_cons_zero, List.set_cons_succ]
      refine wpAnyC_take (i := 1) (v := ?_) rfl (by kernel_rfl) (by kernel_rfl) (by kernel_rfl) (by kernel_rfl) (by kernel_rfl) (by kernel_rfl) (fun _ _ _ h => h) (Or.inl ⟨by rfl, ?_⟩) hHeld ?_
      rotate_left
      · intro w hSw; (try dsimp only at hSw); (try simp only [List.getElem_toArray, List.getElem_cons_succ, List.getElem_cons_zero]); (go_simp; try with_reducible rfl)
      try simp only [List.getElem_toArray, List.getElem_cons_succ, List.getElem_cons_zero, Act.put, List.setIfInBounds_toArray, List.set_cons_zero, List.set_cons_succ]
      refine wpAnyC_take (i := 2) (v := ?_) rfl (by kernel_rfl) (by kernel_rfl) (by kernel_rfl) (by kernel_rfl) (by kernel_rfl) (by kernel_rfl) (fun _ _ _ h => h) (Or.inl ⟨by rfl, ?_⟩) hHeld ?_
      rotate_left
      · intro w hSw; (try dsimp only at hSw); (try simp only [List.getElem_toArray, List.getElem_cons_succ, List.getElem_cons_zero]); (go_simp; try with_reducible rfl)
      try simp only [List.getElem_toArray, List.getElem_cons_succ, List.getElem_cons_zero, Act.put, List.setIfInBounds_toArray, List.set_cons_zero, List.set_cons_succ]
      refine wpAnyC_take (i := 3) (v := ?_) rfl (by kernel_rfl) (by kernel_rfl) (by kernel_rfl) (by kernel_rfl) (by kernel_rfl) (by kernel_rfl) (fun _ _ _ h => h) (Or.inl ⟨by rfl, ?_⟩) hHeld ?_
      rotate_left
      · intro w hSw; (try dsimp only at hSw); (try simp only [List.getElem_toArray, List.getElem_cons_succ, List.getElem_cons_zero]); (go_simp; try with_reducible rfl)
      try simp only [List.getElem_toArray, List.getElem_cons_succ, List.getElem_cons_zero, Act.put, List.setIfInBounds_toArray, List.set_cons_zero, List.set_cons_succ]
      refine wpAnyC_take (i := 4) (v := ?_) rfl (by kernel_rfl) (by kernel_rfl) (by kernel_rfl) (by kernel_rfl) (by kernel_rfl) (by kernel_rfl) (fun _ _ _ h => h) (Or.inl ⟨by rfl, ?_⟩) hHeld ?_
      rotate_left
      · intro w hSw; (try dsimp only at hSw); (try simp only [List.getElem_toArray, List.getElem_cons_succ, List.getElem_cons_zero]); (go_simp; try with_reducible rfl)
      try simp only [List.getElem_toArray, List.getElem_cons_succ, List.getElem_cons_zero, Act.put, List.setIfInBounds_toArray, List.set_cons_zero, List.set_cons_succ]
      refine wpAnyC_take (i := 5) (v := ?_) rfl (by kernel_rfl) (by kernel_rfl) (by kernel_rfl) (by kernel_rfl) (by kernel_rfl) (by kernel_rfl) (fun _ _ _ h => h) (Or.inl ⟨by rfl, ?_⟩) hHeld ?_
      rotate_left
      · intro w hSw; (try dsimp only at hSw); (try simp only [List.getElem_toArray, List.getElem_cons_succ, List.getElem_cons_zero]); (go_simp; try with_reducible rfl)
      try simp only [List.getElem_toArray, List.getElem_cons_succ, List.getElem_cons_zero, Act.put, List.setIfInBounds_toArray, List.set_cons_zero, List.set_cons_succ]
      refine wpAnyC_take (i := 6) (v := ?_) rfl (by kernel_rfl) (by kernel_rfl) (by kernel_rfl) (by kernel_rfl) (by kernel_rfl) (by kernel_rfl) (fun _ _ _ h => h) (Or.inl ⟨by rfl, ?_⟩) hHeld ?_
      rotate_left
      · intro w hSw; (try dsimp only at hSw); (try simp only [List.getElem_toArray, List.getElem_cons_succ, List.getElem_cons_zero]); (go_simp; try with_reducible rfl)
      try simp only [List.getElem_toArray, List.getElem_cons_succ, List.getElem_cons_zero, Act.put, List.setIfInBounds_toArray, List.set_cons_zero, List.set_cons_succ]
      refine wpAnyC_take (i := 7) (v := ?_) rfl (by kernel_rfl) (by kernel_rfl) (by kernel_rfl) (by kernel_rfl) (by kernel_rfl) (by kernel_rfl) (fun _ _ _ h => h) (Or.inl ⟨by rfl, ?_⟩) hHeld ?_
      rotate_left
      · intro w hSw; (try dsimp only at hSw); (try simp only [List.getElem_toArray, List.getElem_cons_succ, List.getElem_cons_zero]); (go_simp; try with_reducible rfl)
      try simp only [List.getElem_toArray, List.getElem_cons_succ, List.getElem_cons_zero, Act.put, List.setIfInBounds_toArray, List.set_cons_zero, List.set_cons_succ]
      refine wpAnyC_take (i := 8) (v := ?_) rfl (by kernel_rfl) (by kernel_rfl) (by kernel_rfl) (by kernel_rfl) (by kernel_rfl) (by kernel_rfl) (fun _ _ _ h => h) (Or.inl ⟨by rfl, ?_⟩) hHeld ?_
      rotate_left
      · intro w hSw; (try dsimp only at hSw); (try simp only [List.getElem_toArray, List.getElem_cons_succ, List.getElem_cons_zero]); (go_simp; try with_reducible rfl)
      try simp only [List.getElem_toArray, List.getElem_cons_succ, List.getElem_cons_zero, Act.put, List.setIfInBounds_toArray, List.set_cons_zero, List.set_cons_succ]
      refine wpAnyC_take (i := 9) (v := ?_) rfl (by kernel_rfl) (by kernel_rfl) (by kernel_rfl) (by kernel_rfl) (by kernel_rfl) (by kernel_rfl) (fun _ _ _ h => h) (Or.inl ⟨by rfl, ?_⟩) hHeld ?_
      rotate_left
      · intro w hSw; (try dsimp only at hSw); (try simp only [List.getElem_toArray, List.getElem_cons_succ, List.getElem_cons_zero]); (go_simp; try with_reducible rfl)
      try simp only [List.getElem_toArray, List.getElem_cons_succ, List.getElem_cons_zero, Act.put, List.setIfInBounds_toArray, List.set_cons_zero, List.set_cons_succ]
      refine wpAnyC_take (i := 10) (v := ?_) rfl (by kernel_rfl) (by kernel_rfl) (by kernel_rfl) (by kernel_rfl) (by kernel_rfl) (by kernel_rfl) (fun _ _ _ h => h) (Or.inl ⟨by rfl, ?_⟩) hHeld ?_
      rotate_left
      · intro w hSw; (try dsimp only at hSw); (try simp only [List.getElem_toArray, List.getElem_cons_succ, List.getElem_cons_zero]); (go_simp; try with_reducible rfl)
      try simp only [List.getElem_toArray, List.getElem_cons_succ, List.getElem_cons_zero, Act.put, List.setIfInBounds_toArray, List.set_cons_zero, List.set_cons_succ]
      skip
      refine wpAnyK_one (i := 11) (by kernel_rfl) rfl (fun K hK => ?_)
      (try simp only [List.getElem_toArray, List.getElem_cons_succ, List.getElem_cons_zero])
      go_simp
      (refine Calls.mono (msee_any gm dn r v M _ hdn.2 hHeld.2.2.1) ?_; rintro x w6 ⟨rfl, hm, hb'⟩)
      refine hK.out _ _ (Or.inl (by kernel_rfl)) ?_
      clear hK K
      try simp only [List.getElem_toArray, List.getElem_cons_succ, List.getElem_cons_zero, Act.put, List.setIfInBounds_toArray, List.set_cons_zero, List.set_cons_succ]
      refine wpAnyK_done (by kernel_rfl) ?_ _
      have Q0 := Lib.hid (grown_new hb' hHeld.1.2 (Nat.le_of_lt hlt5) hHeld.1.1)
      have Q1 := Lib.hid (grown_blk hb' hsm hHeld.2.1)
      have Q2 := Lib.hid hm
      have Q3 := Lib.hid (hb'.cell hHeld.2.2.2.1 (fun e => hbm (by simpa using e)))
      have Q4 := Lib.hid (rowN_grown hb' hbm hHeld.2.2.2.2.1)
      have Q5 := Lib.hid (grown_blk hb' hxm hHeld.2.2.2.2.2.1)
      have Q6 := Lib.hid (grown_blk hb' hym hHeld.2.2.2.2.2.2)
      clear hHeld hb' hm hsm hbm k0 k1 k2 c1 c2 hs1 hs2 hX hY hxm hym hyx hgx hgy
      generalize seeM dn M r v = M1 at *
      generalize stabF dn M = was at *
      generalize rowF dn M r = row at *
      go_wp2_with fail
      refine Calls.mono (mstable_any gm dn M1 _ ⟨by omega, hdn.2⟩ Q2.out) ?_
      rintro e w7 ⟨rfl, hb'⟩
      replace Q0 := Lib.hid (gbel hb' Q0.out (Nat.le_of_lt (VBox.lt Q1.out)))
      replace Q1 := Lib.hid (gblk hb' Q1.out)
      replace Q2 : Hid (MX w7 gm dn M1) := Lib.hid (gblk hb' Q2.out)
      replace Q3 := Lib.hid (gcell hb' Q3.out)
      replace Q4 := Lib.hid (rowN_keep hb' Q4.out)
      replace Q5 := Lib.hid (gblk hb' Q5.out)
      replace Q6 := Lib.hid (gblk hb' Q6.out)
      clear hb'
      have ST : Hid (∀ j : Nat, (j : Int) < dn → mostB (stabF dn M1) (rowF dn M1 j) = true) := Lib.hid fun j h => stab_most h
      have CC : Hid (∀ s, same16 (cutF dn M1 s) (stabF dn M1) = true ∨ cutB dn M1 s = false ∧ cutF dn M1 s = z0) := Lib.hid fun s => by
        cases h : cutB dn M1 s
        · exact .inr ⟨rfl, cutF_no h⟩
        · exact .inl (by rw [cutF_yes h]; exact same16_refl _)
      generalize hst : stabF dn M1 = st at *
      clear hst
      go_wp2_with fail
      have hB := (Below.refl w7.heap.size w7).alloc (Nat.le_refl _) (Obj.cells (vv st) 23)
      have k0 := Lib.hid (gbel hB Q0.out (Nat.le_of_lt (VBox.lt Q1.out)))
      have k1 := gblk hB Q1.out
      have k2 : MX (w7.alloc (Obj.cells (vv st) 23)) gm dn M1 := gblk hB Q2.out
      have c1 := gcell hB Q3.out
      have c2 := rowN_keep hB Q4.out
      have hX := gblk hB Q5.out
      have hY := gblk hB Q6.out
      have hZ := gblk_new w7 (Obj.cells (vv st) 23)
      clear hB Q0 Q1 Q2 Q3 Q4 Q5 Q6
      generalize w7.alloc (Obj.cells (vv st) 23) = w8 at *
      generalize w7.heap.size = gz at *
      go_wp2_with fail
      refine wp_region_held_drew (S := fun w' => (Below g5 w w' ∧ g5 ≤ w'.heap.size) ∧ blk w' g5 = some (.cells (vv s) 23) ∧ MX w' gm dn M1 ∧ w'.cell? ⟨b, o + k * 17, none⟩ = some (.int .i64 r) ∧ blk w' gx = some (.cells (vv was) 23) ∧ blk w' gy = some (.cells (vv row) 23) ∧ blk w' gz = some (.cells (vv st) 23)) (by kernel_rfl) ⟨⟨k0.out.drew, Nat.le_of_lt (VBox.lt k1)⟩, k1, k2, c1, hX, hY, hZ⟩ (fun hHeld => ?_)
      refine wpAnyH_take (i := 0) (v := ?_) rfl (by kernel_rfl) (by kernel_rfl) (by kernel_rfl) (fun _ _ _ h => h) (Or.inl ⟨by rfl, ?_⟩) hHeld ?_
      rotate_left
      · intro w hSw; (try dsimp only at hSw); (try simp only [List.getElem_toArray, List.getElem_cons_succ, List.getElem_cons_zero]); (go_simp; try with_reducible rfl)
      try simp only [List.getElem_toArray, List.getElem_cons_succ, List.getElem_cons_zero, Act.put, List.setIfInBounds_toArray, List.set_cons_zero, List.set_cons_succ]
      refine wpAnyH_take (i := 1) (v := ?_) rfl (by kernel_rfl) (by kernel_rfl) (by kernel_rfl) (fun _ _ _ h => h) (Or.inl ⟨by rfl, ?_⟩) hHeld ?_
      rotate_left
      · intro w hSw; (try dsimp only at hSw); (try simp only [List.getElem_toArray, List.getElem_cons_succ, List.getElem_cons_zero]); (go_simp; try with_reducible rfl)
      try simp only [List.getElem_toArray, List.getElem_cons_succ, List.getElem_cons_zero, Act.put, List.setIfInBounds_toArray, List.set_cons_zero, List.set_cons_succ]
      refine wpAnyH_ready (rs := [2]) (by kernel_rfl) (by simp) ?_
      refine AllReadyH.cons rfl (fun K hK => ?_) AllReadyH.nil
      go_simp
      (refine Calls.mono (rmost_any _ _ _) ?_; rintro e w' ⟨rfl, hb'⟩; first | rw [R1] | rw [R2])
      refine hK.out _ _ ⟨⟨gbel hb' hHeld.1.1 hHeld.1.2, Nat.le_trans hHeld.1.2 hb'.size⟩, gblk hb' hHeld.2.1, gblk hb' hHeld.2.2.1, gcell hb' hHeld.2.2.2.1, gblk hb' hHeld.2.2.2.2.1, gblk hb' hHeld.2.2.2.2.2.1, gblk hb' hHeld.2.2.2.2.2.2⟩ (fun hNew => ?_)
      clear hK K hHeld hb'
      have hHeld := hNew
      clear hNew
      try simp only [List.getElem_toArray, List.getElem_cons_succ, List.getElem_cons_zero, Act.put, List.setIfInBounds_toArray, List.set_cons_zero, List.set_cons_succ]
      refine wpAnyH_take (i := 3) (v := ?_) rfl (by kernel_rfl) (by kernel_rfl) (by kernel_rfl) (fun _ _ _ h => h) (Or.inl ⟨by rfl, ?_⟩) hHeld ?_
      rotate_left
      · intro w hSw; (try dsimp only at hSw); (try simp only [List.getElem_toArray, List.getElem_cons_succ, List.getElem_cons_zero]); (go_simp; try with_reducible rfl)
      try simp only [List.getElem_toArray, List.getElem_cons_succ, List.getElem_cons_zero, Act.put, List.setIfInBounds_toArray, List.set_cons_zero, List.set_cons_succ]
      refine wpAnyH_take (i := 4) (v := ?_) rfl (by kernel_rfl) (by kernel_rfl) (by kernel_rfl) (fun _ _ _ h => h) (Or.inl ⟨by rfl, ?_⟩) hHeld ?_
      rotate_left
      · intro w hSw; (try dsimp only at hSw); (try simp only [List.getElem_toArray, List.getElem_cons_succ, List.getElem_cons_zero]); (go_simp; try with_reducible rfl)
      try simp only [List.getElem_toArray, List.getElem_cons_succ, List.getElem_cons_zero, Act.put, List.setIfInBounds_toArray, List.set_cons_zero, List.set_cons_succ]
      refine wpAnyH_take (i := 5) (v := ?_) rfl (by kernel_rfl) (by kernel_rfl) (by kernel_rfl) (fun _ _ _ h => h) (Or.inl ⟨by rfl, ?_⟩) hHeld ?_
      rotate_left
      · intro w hSw; (try dsimp only at hSw); (try simp only [List.getElem_toArray, List.getElem_cons_succ, List.getElem_cons_zero]); (go_simp; try with_reducible rfl)
      try simp only [List.getElem_toArray, List.getElem_cons_succ, List.getElem_cons_zero, Act.put, List.setIfInBounds_toArray, List.set_cons_zero, List.set_cons_succ]
      refine wpAnyH_take (i := 6) (v := ?_) rfl (by kernel_rfl) (by kernel_rfl) (by kernel_rfl) (fun _ _ _ h => h) (Or.inl ⟨by rfl, ?_⟩) hHeld ?_
      rotate_left
      · intro w hSw; (try dsimp only at hSw); (try simp only [List.getElem_toArray, List.getElem_cons_succ, List.getElem_cons_zero]); (go_simp; try with_reducible rfl)
      try simp only [List.getElem_toArray, List.getElem_cons_succ, List.getElem_cons_zero, Act.put, List.setIfInBounds_toArray, List.set_cons_zero, List.set_cons_succ]
      refine wpAnyH_take (i := 7) (v := ?_) rfl (by kernel_rfl) (by kernel_rfl) (by kernel_rfl) (fun _ _ _ h => h) (Or.inl ⟨by rfl, ?_⟩) hHeld ?_
      rotate_left
      · intro w hSw; (try dsimp only at hSw); (try simp only [List.getElem_toArray, List.getElem_cons_succ, List.getElem_cons_zero]); (go_simp; try with_reducible rfl)
      try simp only [List.getElem_toArray, List.getElem_cons_succ, List.getElem_cons_zero, Act.put, List.setIfInBounds_toArray, List.set_cons_zero, List.set_cons_succ]
      refine wpAnyH_take (i := 8) (v := ?_) rfl (by kernel_rfl) (by kernel_rfl) (by kernel_rfl) (fun _ _ _ h => h) (Or.inl ⟨by rfl, ?_⟩) hHeld ?_
      rotate_left
      · intro w hSw; (try dsimp only at hSw); (try simp only [List.getElem_toArray, List.getElem_cons_succ, List.getElem_cons_zero]); (go_simp; try with_reducible rfl)
      try simp only [List.getElem_toArray, List.getElem_cons_succ, List.getElem_cons_zero, Act.put, List.setIfInBounds_toArray, List.set_cons_zero, List.set_cons_succ]
      refine wpAnyH_take (i := 9) (v := ?_) rfl (by kernel_rfl) (by kernel_rfl) (by kernel_rfl) (fun _ _ _ h => h) (Or.inl ⟨by rfl, ?_⟩) hHeld ?_
      rotate_left
      · intro w hSw; (try dsimp only at hSw); (try simp only [List.getElem_toArray, List.getElem_cons_succ, List.getElem_cons_zero]); (go_simp; try with_reducible rfl)
      try simp only [List.getElem_toArray, List.getElem_cons_succ, List.getElem_cons_zero, Act.put, List.setIfInBounds_toArray, List.set_cons_zero, List.set_cons_succ]
      refine wpAnyH_take (i := 10) (v := ?_) rfl (by kernel_rfl) (by kernel_rfl) (by kernel_rfl) (fun _ _ _ h => h) (Or.inl ⟨by rfl, ?_⟩) hHeld ?_
      rotate_left
      · intro w hSw; (try dsimp only at hSw); (try simp only [List.getElem_toArray, List.getElem_cons_succ, List.getElem_cons_zero]); (go_simp; try with_reducible rfl)
      try simp only [List.getElem_toArray, List.getElem_cons_succ, List.getElem_cons_zero, Act.put, List.setIfInBounds_toArray, List.set_cons_zero, List.set_cons_succ]
      refine wpAnyH_take (i := 11) (v := ?_) rfl (by kernel_rfl) (by kernel_rfl) (by kernel_rfl) (fun _ _ _ h => h) (Or.inl ⟨by rfl, ?_⟩) hHeld ?_
      rotate_left
      · intro w hSw; (try dsimp only at hSw); (try simp only [List.getElem_toArray, List.getElem_cons_succ, List.getElem_cons_zero]); (go_simp; try with_reducible rfl)
      try simp only [List.getElem_toArray, List.getElem_cons_succ, List.getElem_cons_zero, Act.put, List.setIfInBounds_toArray, List.set_cons_zero, List.set_cons_succ]
      refine wpAnyH_ready (rs := [12]) (by kernel_rfl) (by simp) ?_
      refine AllReadyH.cons rfl (fun K hK => ?_) AllReadyH.nil
      go_simp
      (refine Calls.mono (mrow_any gm dn r M1 _ hdn.2 hHeld.2.2.1) ?_; rintro e w' ⟨rfl, hb'⟩)
      refine hK.out _ _ ⟨⟨gbel hb' hHeld.1.1 hHeld.1.2, Nat.le_trans hHeld.1.2 hb'.size⟩, gblk hb' hHeld.2.1, gblk hb' hHeld.2.2.1, gcell hb' hHeld.2.2.2.1, gblk hb' hHeld.2.2.2.2.1, gblk hb' hHeld.2.2.2.2.2.1, gblk hb' hHeld.2.2.2.2.2.2⟩ (fun hNew => ?_)
      clear hK K hHeld hb'
      have hHeld := hNew
      clear hNew
      try simp only [List.getElem_toArray, List.getElem_cons_succ, List.getElem_cons_zero, Act.put, List.setIfInBounds_toArray, List.set_cons_zero, List.set_cons_succ]
      refine wpAnyH_ready (rs := [13]) (by kernel_rfl) (by simp) ?_
      refine AllReadyH.cons rfl (fun K hK => ?_) AllReadyH.nil
      go_simp
      (refine Calls.mono (rmost_any _ _ _) ?_; rintro e w' ⟨rfl, hb'⟩; first | rw [R1] | rw [R2])
      refine hK.out _ _ ⟨⟨gbel hb' hHeld.1.1 hHeld.1.2, Nat.le_trans hHeld.1.2 hb'.size⟩, gblk hb' hHeld.2.1, gblk hb' hHeld.2.2.1, gcell hb' hHeld.2.2.2.1, gblk hb' hHeld.2.2.2.2.1, gblk hb' hHeld.2.2.2.2.2.1, gblk hb' hHeld.2.2.2.2.2.2⟩ (fun hNew => ?_)
      clear hK K hHeld hb'
      have hHeld := hNew
      clear hNew
      try simp only [List.getElem_toArray, List.getElem_cons_succ, List.getElem_cons_zero, Act.put, List.setIfInBounds_toArray, List.set_cons_zero, List.set_cons_succ]
      refine wpAnyH_take (i := 14) (v := ?_) rfl (by kernel_rfl) (by kernel_rfl) (by kernel_rfl) (fun _ _ _ h => h) (Or.inl ⟨by rfl, ?_⟩) hHeld ?_
      rotate_left
      · intro w hSw; (try dsimp only at hSw); (try simp only [List.getElem_toArray, List.getElem_cons_succ, List.getElem_cons_zero]); (go_simp; try with_reducible rfl)
      try simp only [List.getElem_toArray, List.getElem_cons_succ, List.getElem_cons_zero, Act.put, List.setIfInBounds_toArray, List.set_cons_zero, List.set_cons_succ]
      refine wpAnyH_take (i := 15) (v := ?_) rfl (by kernel_rfl) (by kernel_rfl) (by kernel_rfl) (fun _ _ _ h => h) (Or.inl ⟨by rfl, ?_⟩) hHeld ?_
      rotate_left
      · intro w hSw; (try dsimp only at hSw); (try simp only [List.getElem_toArray, List.getElem_cons_succ, List.getElem_cons_zero]); (go_simp; try with_reducible rfl)
      try simp only [List.getElem_toArray, List.getElem_cons_succ, List.getElem_cons_zero, Act.put, List.setIfInBounds_toArray, List.set_cons_zero, List.set_cons_succ]
      refine wpAnyH_done (by kernel_rfl) ?_ _
      have Q := Lib.hid hHeld
      clear hHeld k0 k1 k2 c1 c2 hX hY hZ
      clear w8
      go_wp2_with fail
      go_loopw [13] (fun i wq => ∃ j : Nat, (j : Int) ≤ dn ∧ i = .int .i64 j ∧ (Below g5 w wq ∧ g5 ≤ wq.heap.size) ∧ blk wq g5 = some (.cells (vv s) 23) ∧ MX wq gm dn M1 ∧ blk wq gz = some (.cells (vv st) 23)) (fun i _ => 16 - (intOf i).toNat)
      case atStart => exact ⟨0, by omega, rfl, Q.out.1, Q.out.2.1, Q.out.2.2.1, Q.out.2.2.2.2.2.2⟩
      case round =>
        obtain ⟨j, hj, rfl, ⟨k0, hs0⟩, k1, k2, hZ⟩ := hrel
        have P0 := Lib.hid k0
        clear k0 Q
        by_cases hlt2 : (j : Int) < dn
        · have R3 := ST.out j hlt2
          go_wp2_with fail
          refine wp_region_held_drew (S := fun w' => (Below g5 w w' ∧ g5 ≤ w'.heap.size) ∧ blk w' g5 = some (.cells (vv s) 23) ∧ MX w' gm dn M1 ∧ blk w' gz = some (.cells (vv st) 23)) (by kernel_rfl) ⟨⟨P0.out.drew, hs0⟩, k1, k2, hZ⟩ (fun hHeld => ?_)
          refine wpAnyH_take (i := 0) (v := ?_) rfl (by kernel_rfl) (by kernel_rfl) (by kernel_rfl) (fun _ _ _ h => h) (Or.inl ⟨by rfl, ?_⟩) hHeld ?_
          rotate_left
          · intro w hSw; (try dsimp only at hSw); (try simp only [List.getElem_toArray, List.getElem_cons_succ, List.getElem_cons_zero]); (go_simp; try with_reducible rfl)
          try simp only [List.getElem_toArray, List.getElem_cons_succ, List.getElem_cons_zero, Act.put, List.setIfInBounds_toArray, List.set_cons_zero, List.set_cons_succ]
          refine wpAnyH_take (i := 1) (v := ?_) rfl (by kernel_rfl) (by kernel_rfl) (by kernel_rfl) (fun _ _ _ h => h) (Or.inl ⟨by rfl, ?_⟩) hHeld ?_
          rotate_left
          · intro w hSw; (try dsimp only at hSw); (try simp only [List.getElem_toArray, List.getElem_cons_succ, List.getElem_cons_zero]); (go_simp; try with_reducible rfl)
          try simp only [List.getElem_toArray, List.getElem_cons_succ, List.getElem_cons_zero, Act.put, List.setIfInBounds_toArray, List.set_cons_zero, List.set_cons_succ]
          refine wpAnyH_take (i := 2) (v := ?_) rfl (by kernel_rfl) (by kernel_rfl) (by kernel_rfl) (fun _ _ _ h => h) (Or.inl ⟨by rfl, ?_⟩) hHeld ?_
          rotate_left
          · intro w hSw; (try dsimp only at hSw); (try simp only [List.getElem_toArray, List.getElem_cons_succ, List.getElem_cons_zero]); (go_simp; try with_reducible rfl)
          try simp only [List.getElem_toArray, List.getElem_cons_succ, List.getElem_cons_zero, Act.put, List.setIfInBounds_toArray, List.set_cons_zero, List.set_cons_succ]
          refine wpAnyH_ready (rs := [3]) (by kernel_rfl) (by simp) ?_
          refine AllReadyH.cons rfl (fun K hK => ?_) AllReadyH.nil
          go_simp
          (refine Calls.mono (mrow_any gm dn j M1 _ hdn.2 hHeld.2.2.1) ?_; rintro e w' ⟨rfl, hb'⟩)
          refine hK.out _ _ ⟨⟨gbel hb' hHeld.1.1 hHeld.1.2, Nat.le_trans hHeld.1.2 hb'.size⟩, gblk hb' hHeld.2.1, gblk hb' hHeld.2.2.1, gblk hb' hHeld.2.2.2⟩ (fun hNew => ?_)
          clear hK K hHeld hb'
          have hHeld := hNew
          clear hNew
          try simp only [List.getElem_toArray, List.getElem_cons_succ, List.getElem_cons_zero, Act.put, List.setIfInBounds_toArray, List.set_cons_zero, List.set_cons_succ]
          refine wpAnyH_ready (rs := [4]) (by kernel_rfl) (by simp) ?_
          refine AllReadyH.cons rfl (fun K hK => ?_) AllReadyH.nil
          go_simp
          (refine Calls.mono (rmost_any _ _ _) ?_; rintro e w' ⟨rfl, hb'⟩; rw [R3])
          refine hK.out _ _ ⟨⟨gbel hb' hHeld.1.1 hHeld.1.2, Nat.le_trans hHeld.1.2 hb'.size⟩, gblk hb' hHeld.2.1, gblk hb' hHeld.2.2.1, gblk hb' hHeld.2.2.2⟩ (fun hNew => ?_)
          clear hK K hHeld hb'
          have hHeld := hNew
          clear hNew
          try simp only [List.getElem_toArray, List.getElem_cons_succ, List.getElem_cons_zero, Act.put, List.setIfInBounds_toArray, List.set_cons_zero, List.set_cons_succ]
          refine wpAnyH_take (i := 5) (v := ?_) rfl (by kernel_rfl) (by kernel_rfl) (by kernel_rfl) (fun _ _ _ h => h) (Or.inl ⟨by rfl, ?_⟩) hHeld ?_
          rotate_left
          · intro w hSw; (try dsimp only at hSw); (try simp only [List.getElem_toArray, List.getElem_cons_succ, List.getElem_cons_zero]); (go_simp; try with_reducible rfl)
          try simp only [List.getElem_toArray, List.getElem_cons_succ, List.getElem_cons_zero, Act.put, List.setIfInBounds_toArray, List.set_cons_zero, List.set_cons_succ]
          refine wpAnyH_done (by kernel_rfl) ?_ _
          have Q := Lib.hid hHeld
          clear hHeld P0 k1 k2 hZ
          go_wp2
          go_roundw
          case rel => exact ⟨j + 1, by omega, by go_num, Q.out.1, Q.out.2.1, Q.out.2.2.1, Q.out.2.2.2⟩
          case measure => simp [intOf]; omega
        · go_wp2_with fail
          refine Calls.mono (mcut_any gm dn M1 s _ ⟨by omega, hdn.2⟩ k2) ?_
          rintro e w9 ⟨rfl, hb'⟩
          have A0 := CC.out s
          have B0 := CC.out (joinF s st)
          generalize hc : cutF dn M1 s = c at *
          generalize hd : cutF dn M1 (joinF s st) = d at *
          go_wp2_with fail
          have hB := (Below.refl w9.heap.size w9).alloc (Nat.le_refl _) (Obj.cells (vv c) 23)
          have hB2 := hb'.trans (hB.mono hb'.size)
          have hC := gblk_new w9 (Obj.cells (vv c) 23)
          have k0 := Lib.hid (gbel hB2 P0.out hs0)
          replace k1 := gblk hB2 k1
          replace k2 : MX (w9.alloc (Obj.cells (vv c) 23)) gm dn M1 := gblk hB2 k2
          replace hZ := gblk hB2 hZ
          clear hB hB2 hb' P0 hlt2
          generalize w9.alloc (Obj.cells (vv c) 23) = w8 at *
          generalize w9.heap.size = gc at *
          replace A0 : same16 c st = true ∨ same16 c st = false ∧ same16 c z0 = true := by
            rcases A0 with h | ⟨_, h⟩
            · exact .inl h
            · cases h2 : same16 c st
              · exact .inr ⟨rfl, by rw [h]; exact same16_refl _⟩
              · exact .inl rfl
          replace B0 : same16 d st = true ∨ same16 d st = false ∧ cutB dn M1 (joinF s st) = false := by
            rcases B0 with h | ⟨h, _⟩
            · exact .inl h
            · cases h2 : same16 d st
              · exact .inr ⟨rfl, h⟩
              · exact .inl rfl
          clear hc
          rcases A0 with hA | ⟨hA, hA2⟩
          · rcases B0 with hD | ⟨hD, hw⟩
            · go_wp2_with fail
              refine wp_region_held_drew (S := fun w' => (Below g5 w w' ∧ g5 ≤ w'.heap.size) ∧ blk w' g5 = some (.cells (vv s) 23) ∧ MX w' gm dn M1 ∧ blk w' gz = some (.cells (vv st) 23) ∧ blk w' gc = some (.cells (vv c) 23)) (by kernel_rfl) ⟨⟨k0.out.drew, Nat.le_of_lt (VBox.lt k1)⟩, k1, k2, hZ, hC⟩ (fun hHeld => ?_)
              refine wpAnyH_take (i := 0) (v := ?_) rfl (by kernel_rfl) (by kernel_rfl) (by kernel_rfl) (fun _ _ _ h => h) (Or.inl ⟨by rfl, ?_⟩) hHeld ?_
              rotate_left
              · intro w hSw; (try dsimp only at hSw); (try simp only [List.getElem_toArray, List.getElem_cons_succ, List.getElem_cons_zero]); (go_simp; try with_reducible rfl)
              try simp only [List.getElem_toArray, List.getElem_cons_succ, List.getElem_cons_zero, Act.put, List.setIfInBounds_toArray, List.set_cons_zero, List.set_cons_succ]
              refine wpAnyH_take (i := 1) (v := ?_) rfl (by kernel_rfl) (by kernel_rfl) (by kernel_rfl) (fun _ _ _ h => h) (Or.inl ⟨by rfl, ?_⟩) hHeld ?_
              rotate_left
              · intro w hSw; (try dsimp only at hSw); (try simp only [List.getElem_toArray, List.getElem_cons_succ, List.getElem_cons_zero]); (go_simp; try with_reducible rfl)
              try simp only [List.getElem_toArray, List.getElem_cons_succ, List.getElem_cons_zero, Act.put, List.setIfInBounds_toArray, List.set_cons_zero, List.set_cons_succ]
              refine wpAnyH_take (i := 2) (v := ?_) rfl (by kernel_rfl) (by kernel_rfl) (by kernel_rfl) (fun _ _ _ h => h) (Or.inl ⟨by rfl, ?_⟩) hHeld ?_
              rotate_left
              · intro w hSw; (try dsimp only at hSw); (try simp only [List.getElem_toArray, List.getElem_cons_succ, List.getElem_cons_zero]); (go_simp; try with_reducible rfl)
              try simp only [List.getElem_toArray, List.getElem_cons_succ, List.getElem_cons_zero, Act.put, List.setIfInBounds_toArray, List.set_cons_zero, List.set_cons_succ]
              refine wpAnyH_take (i := 3) (v := ?_) rfl (by kernel_rfl) (by kernel_rfl) (by kernel_rfl) (fun _ _ _ h => h) (Or.inl ⟨by rfl, ?_⟩) hHeld ?_
              rotate_left
              · intro w hSw; (try dsimp only at hSw); (try simp only [List.getElem_toArray, List.getElem_cons_succ, List.getElem_cons_zero]); (go_simp; try with_reducible rfl)
              try simp only [List.getElem_toArray, List.getElem_cons_succ, List.getElem_cons_zero, Act.put, List.setIfInBounds_toArray, List.set_cons_zero, List.set_cons_succ]
              refine wpAnyH_take (i := 4) rfl (by kernel_rfl) (by kernel_rfl) (by kernel_rfl) (fun _ _ _ h => h) (Or.inr ⟨by rfl, rfl⟩) hHeld ?_
              try simp only [List.getElem_toArray, List.getElem_cons_succ, List.getElem_cons_zero, Act.put, List.setIfInBounds_toArray, List.set_cons_zero, List.set_cons_succ]
              refine wpAnyH_take (i := 5) rfl (by kernel_rfl) (by kernel_rfl) (by kernel_rfl) (fun _ _ _ h => h) (Or.inr ⟨by rfl, rfl⟩) hHeld ?_
              try simp only [List.getElem_toArray, List.getElem_cons_succ, List.getElem_cons_zero, Act.put, List.setIfInBounds_toArray, List.set_cons_zero, List.set_cons_succ]
              refine wpAnyH_take (i := 6) rfl (by kernel_rfl) (by kernel_rfl) (by kernel_rfl) (fun _ _ _ h => h) (Or.inr ⟨by rfl, rfl⟩) hHeld ?_
              try simp only [List.getElem_toArray, List.getElem_cons_succ, List.getElem_cons_zero, Act.put, List.setIfInBounds_toArray, List.set_cons_zero, List.set_cons_succ]
              refine wpAnyH_take (i := 7) (v := ?_) rfl (by kernel_rfl) (by kernel_rfl) (by kernel_rfl) (fun _ _ _ h => h) (Or.inl ⟨by rfl, ?_⟩) hHeld ?_
              rotate_left
              · intro w hSw; (try dsimp only at hSw); (try simp only [List.getElem_toArray, List.getElem_cons_succ, List.getElem_cons_zero]); (go_simp; try with_reducible rfl)
              try simp only [List.getElem_toArray, List.getElem_cons_succ, List.getElem_cons_zero, Act.put, List.setIfInBounds_toArray, List.set_cons_zero, List.set_cons_succ]
              refine wpAnyH_take (i := 8) (v := ?_) rfl (by kernel_rfl) (by kernel_rfl) (by kernel_rfl) (fun _ _ _ h => h) (Or.inl ⟨by rfl, ?_⟩) hHeld ?_
              rotate_left
              · intro w hSw; (try dsimp only at hSw); (try simp only [List.getElem_toArray, List.getElem_cons_succ, List.getElem_cons_zero]); (go_simp; try with_reducible rfl)
              try simp only [List.getElem_toArray, List.getElem_cons_succ, List.getElem_cons_zero, Act.put, List.setIfInBounds_toArray, List.set_cons_zero, List.set_cons_succ]
              refine wpAnyH_take (i := 9) (v := ?_) rfl (by kernel_rfl) (by kernel_rfl) (by kernel_rfl) (fun _ _ _ h => h) (Or.inl ⟨by rfl, ?_⟩) hHeld ?_
              rotate_left
              · intro w hSw; (try dsimp only at hSw); (try simp only [List.getElem_toArray, List.getElem_cons_succ, List.getElem_cons_zero]); (go_simp; try with_reducible rfl)
              try simp only [List.getElem_toArray, List.getElem_cons_succ, List.getElem_cons_zero, Act.put, List.setIfInBounds_toArray, List.set_cons_zero, List.set_cons_succ]
              refine wpAnyH_take (i := 10) (v := ?_) rfl (by kernel_rfl) (by kernel_rfl) (by kernel_rfl) (fun _ _ _ h => h) (Or.inl ⟨by rfl, ?_⟩) hHeld ?_
              rotate_left
              · intro w hSw; (try dsimp only at hSw); (try simp only [List.getElem_toArray, List.getElem_cons_succ, List.getElem_cons_zero]); (go_simp; try with_reducible rfl)
              try simp only [List.getElem_toArray, List.getElem_cons_succ, List.getElem_cons_zero, Act.put, List.setIfInBounds_toArray, List.set_cons_zero, List.set_cons_succ]
              refine wpAnyH_take (i := 11) (v := ?_) rfl (by kernel_rfl) (by kernel_rfl) (by kernel_rfl) (fun _ _ _ h => h) (Or.inl ⟨by rfl, ?_⟩) hHeld ?_
              rotate_left
              · intro w hSw; (try dsimp only at hSw); (try simp only [List.getElem_toArray, List.getElem_cons_succ, List.getElem_cons_zero]); (go_simp; try with_reducible rfl)
              try simp only [List.getElem_toArray, List.getElem_cons_succ, List.getElem_cons_zero, Act.put, List.setIfInBounds_toArray, List.set_cons_zero, List.set_cons_succ]
              refine wpAnyH_take (i := 14) (v := ?_) rfl (by kernel_rfl) (by kernel_rfl) (by kernel_rfl) (fun _ _ _ h => h) (Or.inl ⟨by rfl, ?_⟩) hHeld ?_
              rotate_left
              · intro w hSw; (try dsimp only at hSw); (try simp only [List.getElem_toArray, List.getElem_cons_succ, List.getElem_cons_zero]); (go_simp; try with_reducible rfl)
              try simp only [List.getElem_toArray, List.getElem_cons_succ, List.getElem_cons_zero, Act.put, List.setIfInBounds_toArray, List.set_cons_zero, List.set_cons_succ]
              refine wpAnyH_ready (rs := [12]) (by kernel_rfl) (by simp) ?_
              refine AllReadyH.cons rfl (fun K hK => ?_) AllReadyH.nil
              go_simp
              (refine Calls.mono (rjoin_any _ _ _) ?_; rintro e w' ⟨rfl, hb'⟩)
              refine hK.out _ _ ⟨⟨gbel hb' hHeld.1.1 hHeld.1.2, Nat.le_trans hHeld.1.2 hb'.size⟩, gblk hb' hHeld.2.1, gblk hb' hHeld.2.2.1, gblk hb' hHeld.2.2.2.1, gblk hb' hHeld.2.2.2.2⟩ (fun hNew => ?_)
              clear hK K hHeld hb'
              have hHeld := hNew
              clear hNew
              try simp only [List.getElem_toArray, List.getElem_cons_succ, List.getElem_cons_zero, Act.put, List.setIfInBounds_toArray, List.set_cons_zero, List.set_cons_succ]
              refine wpAnyH_ready (rs := [13]) (by kernel_rfl) (by simp) ?_
              refine AllReadyH.cons rfl (fun K hK => ?_) AllReadyH.nil
              go_simp
              (refine Calls.mono (mcut_any gm dn M1 (joinF s st) _ ⟨by omega, hdn.2⟩ hHeld.2.2.1) ?_; rintro e w' ⟨rfl, hb'⟩; rw [hd])
              refine hK.out _ _ ⟨⟨gbel hb' hHeld.1.1 hHeld.1.2, Nat.le_trans hHeld.1.2 hb'.size⟩, gblk hb' hHeld.2.1, gblk hb' hHeld.2.2.1, gblk hb' hHeld.2.2.2.1, gblk hb' hHeld.2.2.2.2⟩ (fun hNew => ?_)
              clear hK K hHeld hb'
              have hHeld := hNew
              clear hNew
              try simp only [List.getElem_toArray, List.getElem_cons_succ, List.getElem_cons_zero, Act.put, List.setIfInBounds_toArray, List.set_cons_zero, List.set_cons_succ]
              refine wpAnyH_take (i := 15) (v := ?_) rfl (by kernel_rfl) (by kernel_rfl) (by kernel_rfl) (fun _ _ _ h => h) (Or.inl ⟨by rfl, ?_⟩) hHeld ?_
              rotate_left
              · intro w hSw; (try dsimp only at hSw); (try simp only [List.getElem_toArray, List.getElem_cons_succ, List.getElem_cons_zero]); (go_simp; try with_reducible rfl)
              try simp only [List.getElem_toArray, List.getElem_cons_succ, List.getElem_cons_zero, Act.put, List.setIfInBounds_toArray, List.set_cons_zero, List.set_cons_succ]
              refine wpAnyH_take (i := 16) (v := ?_) rfl (by kernel_rfl) (by kernel_rfl) (by kernel_rfl) (fun _ _ _ h => h) (Or.inl ⟨by rfl, ?_⟩) hHeld ?_
              rotate_left
              · intro w hSw; (try dsimp only at hSw); (try simp only [List.getElem_toArray, List.getElem_cons_succ, List.getElem_cons_zero]); (go_simp; try with_reducible rfl)
              try simp only [List.getElem_toArray, List.getElem_cons_succ, List.getElem_cons_zero, Act.put, List.setIfInBounds_toArray, List.set_cons_zero, List.set_cons_succ]
              refine wpAnyH_take (i := 17) rfl (by kernel_rfl) (by kernel_rfl) (by kernel_rfl) (fun _ _ _ h => h) (Or.inr ⟨by rfl, rfl⟩) hHeld ?_
              try simp only [List.getElem_toArray, List.getElem_cons_succ, List.getElem_cons_zero, Act.put, List.setIfInBounds_toArray, List.set_cons_zero, List.set_cons_succ]
              refine wpAnyH_take (i := 18) rfl (by kernel_rfl) (by kernel_rfl) (by kernel_rfl) (fun _ _ _ h => h) (Or.inr ⟨by rfl, rfl⟩) hHeld ?_
              try simp only [List.getElem_toArray, List.getElem_cons_succ, List.getElem_cons_zero, Act.put, List.setIfInBounds_toArray, List.set_cons_zero, List.set_cons_succ]
              refine wpAnyH_take (i := 19) rfl (by kernel_rfl) (by kernel_rfl) (by kernel_rfl) (fun _ _ _ h => h) (Or.inr ⟨by rfl, rfl⟩) hHeld ?_
              try simp only [List.getElem_toArray, List.getElem_cons_succ, List.getElem_cons_zero, Act.put, List.setIfInBounds_toArray, List.set_cons_zero, List.set_cons_succ]
              refine wpAnyH_take (i := 20) rfl (by kernel_rfl) (by kernel_rfl) (by kernel_rfl) (fun _ _ _ h => h) (Or.inr ⟨by rfl, rfl⟩) hHeld ?_
              try simp only [List.getElem_toArray, List.getElem_cons_succ, List.getElem_cons_zero, Act.put, List.setIfInBounds_toArray, List.set_cons_zero, List.set_cons_succ]
              refine wpAnyH_take (i := 21) rfl (by kernel_rfl) (by kernel_rfl) (by kernel_rfl) (fun _ _ _ h => h) (Or.inr ⟨by rfl, rfl⟩) hHeld ?_
              try simp only [List.getElem_toArray, List.getElem_cons_succ, List.getElem_cons_zero, Act.put, List.setIfInBounds_toArray, List.set_cons_zero, List.set_cons_succ]
              refine wpAnyH_take (i := 22) rfl (by kernel_rfl) (by kernel_rfl) (by kernel_rfl) (fun _ _ _ h => h) (Or.inr ⟨by rfl, rfl⟩) hHeld ?_
              try simp only [List.getElem_toArray, List.getElem_cons_succ, List.getElem_cons_zero, Act.put, List.setIfInBounds_toArray, List.set_cons_zero, List.set_cons_succ]
              refine wpAnyH_take (i := 23) (v := ?_) rfl (by kernel_rfl) (by kernel_rfl) (by kernel_rfl) (fun _ _ _ h => h) (Or.inl ⟨by rfl, ?_⟩) hHeld ?_
              rotate_left
              · intro w hSw; (try dsimp only at hSw); (try simp only [List.getElem_toArray, List.getElem_cons_succ, List.getElem_cons_zero]); (go_simp; try with_reducible rfl)
              try simp only [List.getElem_toArray, List.getElem_cons_succ, List.getElem_cons_zero, Act.put, List.setIfInBounds_toArray, List.set_cons_zero, List.set_cons_succ]
              refine wpAnyH_take (i := 24) (v := ?_) rfl (by kernel_rfl) (by kernel_rfl) (by kernel_rfl) (fun _ _ _ h => h) (Or.inl ⟨by rfl, ?_⟩) hHeld ?_
              rotate_left
              · intro w hSw; (try dsimp only at hSw); (try simp only [List.getElem_toArray, List.getElem_cons_succ, List.getElem_cons_zero]); (go_simp; try with_reducible rfl)
              try simp only [List.getElem_toArray, List.getElem_cons_succ, List.getElem_cons_zero, Act.put, List.setIfInBounds_toArray, List.set_cons_zero, List.set_cons_succ]
              refine wpAnyH_done (by kernel_rfl) ?_ _
              have Q := Lib.hid hHeld
              clear hHeld k0 k1 k2 hZ hC
              go_wp2
              go_roundw
              case rel => exact ⟨k + 1, by omega, by go_num, Q.out.1.1, Q.out.2.1, by rw [E.out]; exact Q.out.2.2.1⟩
              case measure => simp [intOf]; omega
            · go_wp2_with fail
              refine wp_region_held_drew (S := fun w' => (Below g5 w w' ∧ g5 ≤ w'.heap.size) ∧ blk w' g5 = some (.cells (vv s) 23) ∧ MX w' gm dn M1 ∧ blk w' gz = some (.cells (vv st) 23) ∧ blk w' gc = some (.cells (vv c) 23)) (by kernel_rfl) ⟨⟨k0.out.drew, Nat.le_of_lt (VBox.lt k1)⟩, k1, k2, hZ, hC⟩ (fun hHeld => ?_)
              refine wpAnyH_take (i := 0) (v := ?_) rfl (by kernel_rfl) (by kernel_rfl) (by kernel_rfl) (fun _ _ _ h => h) (Or.inl ⟨by rfl, ?_⟩) hHeld ?_
              rotate_left
              · intro w hSw; (try dsimp only at hSw); (try simp only [List.getElem_toArray, List.getElem_cons_succ, List.getElem_cons_zero]); (go_simp; try with_reducible rfl)
              try simp only [List.getElem_toArray, List.getElem_cons_succ, List.getElem_cons_zero, Act.put, List.setIfInBounds_toArray, List.set_cons_zero, List.set_cons_succ]
              refine wpAnyH_take (i := 1) (v := ?_) rfl (by kernel_rfl) (by kernel_rfl) (by kernel_rfl) (fun _ _ _ h => h) (Or.inl ⟨by rfl, ?_⟩) hHeld ?_
              rotate_left
              · intro w hSw; (try dsimp only at hSw); (try simp only [List.getElem_toArray, List.getElem_cons_succ, List.getElem_cons_zero]); (go_simp; try with_reducible rfl)
              try simp only [List.getElem_toArray, List.getElem_cons_succ, List.getElem_cons_zero, Act.put, List.setIfInBounds_toArray, List.set_cons_zero, List.set_cons_succ]
              refine wpAnyH_take (i := 2) (v := ?_) rfl (by kernel_rfl) (by kernel_rfl) (by kernel_rfl) (fun _ _ _ h => h) (Or.inl ⟨by rfl, ?_⟩) hHeld ?_
              rotate_left
              · intro w hSw; (try dsimp only at hSw); (try simp only [List.getElem_toArray, List.getElem_cons_succ, List.getElem_cons_zero]); (go_simp; try with_reducible rfl)
              try simp only [List.getElem_toArray, List.getElem_cons_succ, List.getElem_cons_zero, Act.put, List.setIfInBounds_toArray, List.set_cons_zero, List.set_cons_succ]
              refine wpAnyH_take (i := 3) (v := ?_) rfl (by kernel_rfl) (by kernel_rfl) (by kernel_rfl) (fun _ _ _ h => h) (Or.inl ⟨by rfl, ?_⟩) hHeld ?_
              rotate_left
              · intro w hSw; (try dsimp only at hSw); (try simp only [List.getElem_toArray, List.getElem_cons_succ, List.getElem_cons_zero]); (go_simp; try with_reducible rfl)
              try simp only [List.getElem_toArray, List.getElem_cons_succ, List.getElem_cons_zero, Act.put, List.setIfInBounds_toArray, List.set_cons_zero, List.set_cons_succ]
              refine wpAnyH_take (i := 4) rfl (by kernel_rfl) (by kernel_rfl) (by kernel_rfl) (fun _ _ _ h => h) (Or.inr ⟨by rfl, rfl⟩) hHeld ?_
              try simp only [List.getElem_toArray, List.getElem_cons_succ, List.getElem_cons_zero, Act.put, List.setIfInBounds_toArray, List.set_cons_zero, List.set_cons_succ]
              refine wpAnyH_take (i := 5) rfl (by kernel_rfl) (by kernel_rfl) (by kernel_rfl) (fun _ _ _ h => h) (Or.inr ⟨by rfl, rfl⟩) hHeld ?_
              try simp only [List.getElem_toArray, List.getElem_cons_succ, List.getElem_cons_zero, Act.put, List.setIfInBounds_toArray, List.set_cons_zero, List.set_cons_succ]
              refine wpAnyH_take (i := 6) rfl (by kernel_rfl) (by kernel_rfl) (by kernel_rfl) (fun _ _ _ h => h) (Or.inr ⟨by rfl, rfl⟩) hHeld ?_
              try simp only [List.getElem_toArray, List.getElem_cons_succ, List.getElem_cons_zero, Act.put, List.setIfInBounds_toArray, List.set_cons_zero, List.set_cons_succ]
              refine wpAnyH_take (i := 7) (v := ?_) rfl (by kernel_rfl) (by kernel_rfl) (by kernel_rfl) (fun _ _ _ h => h) (Or.inl ⟨by rfl, ?_⟩) hHeld ?_
              rotate_left
              · intro w hSw; (try dsimp only at hSw); (try simp only [List.getElem_toArray, List.getElem_cons_succ, List.getElem_cons_zero]); (go_simp; try with_reducible rfl)
              try simp only [List.getElem_toArray, List.getElem_cons_succ, List.getElem_cons_zero, Act.put, List.setIfInBounds_toArray, List.set_cons_zero, List.set_cons_succ]
              refine wpAnyH_take (i := 8) (v := ?_) rfl (by kernel_rfl) (by kernel_rfl) (by kernel_rfl) (fun _ _ _ h => h) (Or.inl ⟨by rfl, ?_⟩) hHeld ?_
              rotate_left
              · intro w hSw; (try dsimp only at hSw); (try simp only [List.getElem_toArray, List.getElem_cons_succ, List.getElem_cons_zero]); (go_simp; try with_reducible rfl)
              try simp only [List.getElem_toArray, List.getElem_cons_succ, List.getElem_cons_zero, Act.put, List.setIfInBounds_toArray, List.set_cons_zero, List.set_cons_succ]
              refine wpAnyH_take (i := 9) (v := ?_) rfl (by kernel_rfl) (by kernel_rfl) (by kernel_rfl) (fun _ _ _ h => h) (Or.inl ⟨by rfl, ?_⟩) hHeld ?_
              rotate_left
              · intro w hSw; (try dsimp only at hSw); (try simp only [List.getElem_toArray, List.getElem_cons_succ, List.getElem_cons_zero]); (go_simp; try with_reducible rfl)
              try simp only [List.getElem_toArray, List.getElem_cons_succ, List.getElem_cons_zero, Act.put, List.setIfInBounds_toArray, List.set_cons_zero, List.set_cons_succ]
              refine wpAnyH_take (i := 10) (v := ?_) rfl (by kernel_rfl) (by kernel_rfl) (by kernel_rfl) (fun _ _ _ h => h) (Or.inl ⟨by rfl, ?_⟩) hHeld ?_
              rotate_left
              · intro w hSw; (try dsimp only at hSw); (try simp only [List.getElem_toArray, List.getElem_cons_succ, List.getElem_cons_zero]); (go_simp; try with_reducible rfl)
              try simp only [List.getElem_toArray, List.getElem_cons_succ, List.getElem_cons_zero, Act.put, List.setIfInBounds_toArray, List.set_cons_zero, List.set_cons_succ]
              refine wpAnyH_take (i := 11) (v := ?_) rfl (by kernel_rfl) (by kernel_rfl) (by kernel_rfl) (fun _ _ _ h => h) (Or.inl ⟨by rfl, ?_⟩) hHeld ?_
              rotate_left
              · intro w hSw; (try dsimp only at hSw); (try simp only [List.getElem_toArray, List.getElem_cons_succ, List.getElem_cons_zero]); (go_simp; try with_reducible rfl)
              try simp only [List.getElem_toArray, List.getElem_cons_succ, List.getElem_cons_zero, Act.put, List.setIfInBounds_toArray, List.set_cons_zero, List.set_cons_succ]
              refine wpAnyH_take (i := 14) (v := ?_) rfl (by kernel_rfl) (by kernel_rfl) (by kernel_rfl) (fun _ _ _ h => h) (Or.inl ⟨by rfl, ?_⟩) hHeld ?_
              rotate_left
              · intro w hSw; (try dsimp only at hSw); (try simp only [List.getElem_toArray, List.getElem_cons_succ, List.getElem_cons_zero]); (go_simp; try with_reducible rfl)
              try simp only [List.getElem_toArray, List.getElem_cons_succ, List.getElem_cons_zero, Act.put, List.setIfInBounds_toArray, List.set_cons_zero, List.set_cons_succ]
              refine wpAnyH_ready (rs := [12]) (by kernel_rfl) (by simp) ?_
              refine AllReadyH.cons rfl (fun K hK => ?_) AllReadyH.nil
              go_simp
              (refine Calls.mono (rjoin_any _ _ _) ?_; rintro e w' ⟨rfl, hb'⟩)
              refine hK.out _ _ ⟨⟨gbel hb' hHeld.1.1 hHeld.1.2, Nat.le_trans hHeld.1.2 hb'.size⟩, gblk hb' hHeld.2.1, gblk hb' hHeld.2.2.1, gblk hb' hHeld.2.2.2.1, gblk hb' hHeld.2.2.2.2⟩ (fun hNew => ?_)
              clear hK K hHeld hb'
              have hHeld := hNew
              clear hNew
              try simp only [List.getElem_toArray, List.getElem_cons_succ, List.getElem_cons_zero, Act.put, List.setIfInBounds_toArray, List.set_cons_zero, List.set_cons_succ]
              refine wpAnyH_ready (rs := [13]) (by kernel_rfl) (by simp) ?_
              refine AllReadyH.cons rfl (fun K hK => ?_) AllReadyH.nil
              go_simp
              (refine Calls.mono (mcut_any gm dn M1 (joinF s st) _ ⟨by omega, hdn.2⟩ hHeld.2.2.1) ?_; rintro e w' ⟨rfl, hb'⟩; rw [hd])
              refine hK.out _ _ ⟨⟨gbel hb' hHeld.1.1 hHeld.1.2, Nat.le_trans hHeld.1.2 hb'.size⟩, gblk hb' hHeld.2.1, gblk hb' hHeld.2.2.1, gblk hb' hHeld.2.2.2.1, gblk hb' hHeld.2.2.2.2⟩ (fun hNew => ?_)
              clear hK K hHeld hb'
              have hHeld := hNew
              clear hNew
              try simp only [List.getElem_toArray, List.getElem_cons_succ, List.getElem_cons_zero, Act.put, List.setIfInBounds_toArray, List.set_cons_zero, List.set_cons_succ]
              refine wpAnyH_take (i := 15) (v := ?_) rfl (by kernel_rfl) (by kernel_rfl) (by kernel_rfl) (fun _ _ _ h => h) (Or.inl ⟨by rfl, ?_⟩) hHeld ?_
              rotate_left
              · intro w hSw; (try dsimp only at hSw); (try simp only [List.getElem_toArray, List.getElem_cons_succ, List.getElem_cons_zero]); (go_simp; try with_reducible rfl)
              try simp only [List.getElem_toArray, List.getElem_cons_succ, List.getElem_cons_zero, Act.put, List.setIfInBounds_toArray, List.set_cons_zero, List.set_cons_succ]
              refine wpAnyH_take (i := 16) (v := ?_) rfl (by kernel_rfl) (by kernel_rfl) (by kernel_rfl) (fun _ _ _ h => h) (Or.inl ⟨by rfl, ?_⟩) hHeld ?_
              rotate_left
              · intro w hSw; (try dsimp only at hSw); (try simp only [List.getElem_toArray, List.getElem_cons_succ, List.getElem_cons_zero]); (go_simp; try with_reducible rfl)
              try simp only [List.getElem_toArray, List.getElem_cons_succ, List.getElem_cons_zero, Act.put, List.setIfInBounds_toArray, List.set_cons_zero, List.set_cons_succ]
              refine wpAnyH_take (i := 17) (v := ?_) rfl (by kernel_rfl) (by kernel_rfl) (by kernel_rfl) (fun _ _ _ h => h) (Or.inl ⟨by rfl, ?_⟩) hHeld ?_
              rotate_left
              · intro w hSw; (try dsimp only at hSw); (try simp only [List.getElem_toArray, List.getElem_cons_succ, List.getElem_cons_zero]); (go_simp; try with_reducible rfl)
              try simp only [List.getElem_toArray, List.getElem_cons_succ, List.getElem_cons_zero, Act.put, List.setIfInBounds_toArray, List.set_cons_zero, List.set_cons_succ]
              refine wpAnyH_take (i := 18) (v := ?_) rfl (by kernel_rfl) (by kernel_rfl) (by kernel_rfl) (fun _ _ _ h => h) (Or.inl ⟨by rfl, ?_⟩) hHeld ?_
              rotate_left
              · intro w hSw; (try dsimp only at hSw); (try simp only [List.getElem_toArray, List.getElem_cons_succ, List.getElem_cons_zero]); (go_simp; try with_reducible rfl)
              try simp only [List.getElem_toArray, List.getElem_cons_succ, List.getElem_cons_zero, Act.put, List.setIfInBounds_toArray, List.set_cons_zero, List.set_cons_succ]
              refine wpAnyH_take (i := 19) (v := ?_) rfl (by kernel_rfl) (by kernel_rfl) (by kernel_rfl) (fun _ _ _ h => h) (Or.inl ⟨by rfl, ?_⟩) hHeld ?_
              rotate_left
              · intro w hSw; (try dsimp only at hSw); (try simp only [List.getElem_toArray, List.getElem_cons_succ, List.getElem_cons_zero]); (go_simp; try with_reducible rfl)
              try simp only [List.getElem_toArray, List.getElem_cons_succ, List.getElem_cons_zero, Act.put, List.setIfInBounds_toArray, List.set_cons_zero, List.set_cons_succ]
              refine wpAnyH_take (i := 20) (v := ?_) rfl (by kernel_rfl) (by kernel_rfl) (by kernel_rfl) (fun _ _ _ h => h) (Or.inl ⟨by rfl, ?_⟩) hHeld ?_
              rotate_left
              · intro w hSw; (try dsimp only at hSw); (try simp only [List.getElem_toArray, List.getElem_cons_succ, List.getElem_cons_zero]); (go_simp; try with_reducible rfl)
              try simp only [List.getElem_toArray, List.getElem_cons_succ, List.getElem_cons_zero, Act.put, List.setIfInBounds_toArray, List.set_cons_zero, List.set_cons_succ]
              refine wpAnyH_ready (rs := [21]) (by kernel_rfl) (by simp) ?_
              refine AllReadyH.cons rfl (fun K hK => ?_) AllReadyH.nil
              go_simp
              (refine Calls.mono (rjoin_any _ _ _) ?_; rintro e w' ⟨rfl, hb'⟩)
              refine hK.out _ _ ⟨⟨gbel hb' hHeld.1.1 hHeld.1.2, Nat.le_trans hHeld.1.2 hb'.size⟩, gblk hb' hHeld.2.1, gblk hb' hHeld.2.2.1, gblk hb' hHeld.2.2.2.1, gblk hb' hHeld.2.2.2.2⟩ (fun hNew => ?_)
              clear hK K hHeld hb'
              have hHeld := hNew
              clear hNew
              try simp only [List.getElem_toArray, List.getElem_cons_succ, List.getElem_cons_zero, Act.put, List.setIfInBounds_toArray, List.set_cons_zero, List.set_cons_succ]
              refine wpAnyH_ready (rs := [22]) (by kernel_rfl) (by simp) ?_
              refine AllReadyH.cons rfl (fun K hK => ?_) AllReadyH.nil
              go_simp
              (refine Calls.mono (whole_any gm dn M1 (joinF s st) _ ⟨by omega, hdn.2⟩ hHeld.2.2.1) ?_; rintro e w' ⟨rfl, hb'⟩; rw [hw])
              refine hK.out _ _ ⟨⟨gbel hb' hHeld.1.1 hHeld.1.2, Nat.le_trans hHeld.1.2 hb'.size⟩, gblk hb' hHeld.2.1, gblk hb' hHeld.2.2.1, gblk hb' hHeld.2.2.2.1, gblk hb' hHeld.2.2.2.2⟩ (fun hNew => ?_)
              clear hK K hHeld hb'
              have hHeld := hNew
              clear hNew
              try simp only [List.getElem_toArray, List.getElem_cons_succ, List.getElem_cons_zero, Act.put, List.setIfInBounds_toArray, List.set_cons_zero, List.set_cons_succ]
              refine wpAnyH_take (i := 23) (v := ?_) rfl (by kernel_rfl) (by kernel_rfl) (by kernel_rfl) (fun _ _ _ h => h) (Or.inl ⟨by rfl, ?_⟩) hHeld ?_
              rotate_left
              · intro w hSw; (try dsimp only at hSw); (try simp only [List.getElem_toArray, List.getElem_cons_succ, List.getElem_cons_zero]); (go_simp; try with_reducible rfl)
              try simp only [List.getElem_toArray, List.getElem_cons_succ, List.getElem_cons_zero, Act.put, List.setIfInBounds_toArray, List.set_cons_zero, List.set_cons_succ]
              refine wpAnyH_take (i := 24) (v := ?_) rfl (by kernel_rfl) (by kernel_rfl) (by kernel_rfl) (fun _ _ _ h => h) (Or.inl ⟨by rfl, ?_⟩) hHeld ?_
              rotate_left
              · intro w hSw; (try dsimp only at hSw); (try simp only [List.getElem_toArray, List.getElem_cons_succ, List.getElem_cons_zero]); (go_simp; try with_reducible rfl)
              try simp only [List.getElem_toArray, List.getElem_cons_succ, List.getElem_cons_zero, Act.put, List.setIfInBounds_toArray, List.set_cons_zero, List.set_cons_succ]
              refine wpAnyH_done (by kernel_rfl) ?_ _
              have Q := Lib.hid hHeld
              clear hHeld k0 k1 k2 hZ hC
              go_wp2
              go_roundw
              case rel => exact ⟨k + 1, by omega, by go_num, Q.out.1.1, Q.out.2.1, by rw [E.out]; exact Q.out.2.2.1⟩
              case measure => simp [intOf]; omega
          · rcases B0 with hD | ⟨hD, hw⟩
            · go_wp2_with fail
              refine wp_region_held_drew (S := fun w' => (Below g5 w w' ∧ g5 ≤ w'.heap.size) ∧ blk w' g5 = some (.cells (vv s) 23) ∧ MX w' gm dn M1 ∧ blk w' gz = some (.cells (vv st) 23) ∧ blk w' gc = some (.cells (vv c) 23)) (by kernel_rfl) ⟨⟨k0.out.drew, Nat.le_of_lt (VBox.lt k1)⟩, k1, k2, hZ, hC⟩ (fun hHeld => ?_)
              refine wpAnyH_take (i := 0) (v := ?_) rfl (by kernel_rfl) (by kernel_rfl) (by kernel_rfl) (fun _ _ _ h => h) (Or.inl ⟨by rfl, ?_⟩) hHeld ?_
              rotate_left
              · intro w hSw; (try dsimp only at hSw); (try simp only [List.getElem_toArray, List.getElem_cons_succ, List.getElem_cons_zero]); (go_simp; try with_reducible rfl)
              try simp only [List.getElem_toArray, List.getElem_cons_succ, List.getElem_cons_zero, Act.put, List.setIfInBounds_toArray, List.set_cons_zero, List.set_cons_succ]
              refine wpAnyH_take (i := 1) (v := ?_) rfl (by kernel_rfl) (by kernel_rfl) (by kernel_rfl) (fun _ _ _ h => h) (Or.inl ⟨by rfl, ?_⟩) hHeld ?_
              rotate_left
              · intro w hSw; (try dsimp only at hSw); (try simp only [List.getElem_toArray, List.getElem_cons_succ, List.getElem_cons_zero]); (go_simp; try with_reducible rfl)
              try simp only [List.getElem_toArray, List.getElem_cons_succ, List.getElem_cons_zero, Act.put, List.setIfInBounds_toArray, List.set_cons_zero, List.set_cons_succ]
              refine wpAnyH_take (i := 2) (v := ?_) rfl (by kernel_rfl) (by kernel_rfl) (by kernel_rfl) (fun _ _ _ h => h) (Or.inl ⟨by rfl, ?_⟩) hHeld ?_
              rotate_left
              · intro w hSw; (try dsimp only at hSw); (try simp only [List.getElem_toArray, List.getElem_cons_succ, List.getElem_cons_zero]); (go_simp; try with_reducible rfl)
              try simp only [List.getElem_toArray, List.getElem_cons_succ, List.getElem_cons_zero, Act.put, List.setIfInBounds_toArray, List.set_cons_zero, List.set_cons_succ]
              refine wpAnyH_take (i := 3) (v := ?_) rfl (by kernel_rfl) (by kernel_rfl) (by kernel_rfl) (fun _ _ _ h => h) (Or.inl ⟨by rfl, ?_⟩) hHeld ?_
              rotate_left
              · intro w hSw; (try dsimp only at hSw); (try simp only [List.getElem_toArray, List.getElem_cons_succ, List.getElem_cons_zero]); (go_simp; try with_reducible rfl)
              try simp only [List.getElem_toArray, List.getElem_cons_succ, List.getElem_cons_zero, Act.put, List.setIfInBounds_toArray, List.set_cons_zero, List.set_cons_succ]
              refine wpAnyH_take (i := 4) (v := ?_) rfl (by kernel_rfl) (by kernel_rfl) (by kernel_rfl) (fun _ _ _ h => h) (Or.inl ⟨by rfl, ?_⟩) hHeld ?_
              rotate_left
              · intro w hSw; (try dsimp only at hSw); (try simp only [List.getElem_toArray, List.getElem_cons_succ, List.getElem_cons_zero]); (go_simp; try with_reducible rfl)
              try simp only [List.getElem_toArray, List.getElem_cons_succ, List.getElem_cons_zero, Act.put, List.setIfInBounds_toArray, List.set_cons_zero, List.set_cons_succ]
              refine wpAnyH_take (i := 5) (v := ?_) rfl (by kernel_rfl) (by kernel_rfl) (by kernel_rfl) (fun _ _ _ h => h) (Or.inl ⟨by rfl, ?_⟩) hHeld ?_
              rotate_left
              · intro w hSw; (try dsimp only at hSw); (try simp only [List.getElem_toArray, List.getElem_cons_succ, List.getElem_cons_zero]); (go_simp; try with_reducible rfl)
              try simp only [List.getElem_toArray, List.getElem_cons_succ, List.getElem_cons_zero, Act.put, List.setIfInBounds_toArray, List.set_cons_zero, List.set_cons_succ]
              refine wpAnyH_take (i := 6) (v := ?_) rfl (by kernel_rfl) (by kernel_rfl) (by kernel_rfl) (fun _ _ _ h => h) (Or.inl ⟨by rfl, ?_⟩) hHeld ?_
              rotate_left
              · intro w hSw; (try dsimp only at hSw); (try simp only [List.getElem_toArray, List.getElem_cons_succ, List.getElem_cons_zero]); (go_simp; try with_reducible rfl)
              try simp only [List.getElem_toArray, List.getElem_cons_succ, List.getElem_cons_zero, Act.put, List.setIfInBounds_toArray, List.set_cons_zero, List.set_cons_succ]
              refine wpAnyH_take (i := 7) (v := ?_) rfl (by kernel_rfl) (by kernel_rfl) (by kernel_rfl) (fun _ _ _ h => h) (Or.inl ⟨by rfl, ?_⟩) hHeld ?_
              rotate_left
              · intro w hSw; (try dsimp only at hSw); (try simp only [List.getElem_toArray, List.getElem_cons_succ, List.getElem_cons_zero]); (go_simp; try with_reducible rfl)
              try simp only [List.getElem_toArray, List.getElem_cons_succ, List.getElem_cons_zero, Act.put, List.setIfInBounds_toArray, List.set_cons_zero, List.set_cons_succ]
              refine wpAnyH_take (i := 8) (v := ?_) rfl (by kernel_rfl) (by kernel_rfl) (by kernel_rfl) (fun _ _ _ h => h) (Or.inl ⟨by rfl, ?_⟩) hHeld ?_
              rotate_left
              · intro w hSw; (try dsimp only at hSw); (try simp only [List.getElem_toArray, List.getElem_cons_succ, List.getElem_cons_zero]); (go_simp; try with_reducible rfl)
              try simp only [List.getElem_toArray, List.getElem_cons_succ, List.getElem_cons_zero, Act.put, List.setIfInBounds_toArray, List.set_cons_zero, List.set_cons_succ]
              refine wpAnyH_take (i := 9) (v := ?_) rfl (by kernel_rfl) (by kernel_rfl) (by kernel_rfl) (fun _ _ _ h => h) (Or.inl ⟨by rfl, ?_⟩) hHeld ?_
              rotate_left
              · intro w hSw; (try dsimp only at hSw); (try simp only [List.getElem_toArray, List.getElem_cons_succ, List.getElem_cons_zero]); (go_simp; try with_reducible rfl)
              try simp only [List.getElem_toArray, List.getElem_cons_succ, List.getElem_cons_zero, Act.put, List.setIfInBounds_toArray, List.set_cons_zero, List.set_cons_succ]
              refine wpAnyH_take (i := 10) (v := ?_) rfl (by kernel_rfl) (by kernel_rfl) (by kernel_rfl) (fun _ _ _ h => h) (Or.inl ⟨by rfl, ?_⟩) hHeld ?_
              rotate_left
              · intro w hSw; (try dsimp only at hSw); (try simp only [List.getElem_toArray, List.getElem_cons_succ, List.getElem_cons_zero]); (go_simp; try with_reducible rfl)
              try simp only [List.getElem_toArray, List.getElem_cons_succ, List.getElem_cons_zero, Act.put, List.setIfInBounds_toArray, List.set_cons_zero, List.set_cons_succ]
              refine wpAnyH_take (i := 11) (v := ?_) rfl (by kernel_rfl) (by kernel_rfl) (by kernel_rfl) (fun _ _ _ h => h) (Or.inl ⟨by rfl, ?_⟩) hHeld ?_
              rotate_left
              · intro w hSw; (try dsimp only at hSw); (try simp only [List.getElem_toArray, List.getElem_cons_succ, List.getElem_cons_zero]); (go_simp; try with_reducible rfl)
              try simp only [List.getElem_toArray, List.getElem_cons_succ, List.getElem_cons_zero, Act.put, List.setIfInBounds_toArray, List.set_cons_zero, List.set_cons_succ]
              refine wpAnyH_take (i := 14) (v := ?_) rfl (by kernel_rfl) (by kernel_rfl) (by kernel_rfl) (fun _ _ _ h => h) (Or.inl ⟨by rfl, ?_⟩) hHeld ?_
              rotate_left
              · intro w hSw; (try dsimp only at hSw); (try simp only [List.getElem_toArray, List.getElem_cons_succ, List.getElem_cons_zero]); (go_simp; try with_reducible rfl)
              try simp only [List.getElem_toArray, List.getElem_cons_succ, List.getElem_cons_zero, Act.put, List.setIfInBounds_toArray, List.set_cons_zero, List.set_cons_succ]
              refine wpAnyH_ready (rs := [12]) (by kernel_rfl) (by simp) ?_
              refine AllReadyH.cons rfl (fun K hK => ?_) AllReadyH.nil
              go_simp
              (refine Calls.mono (rjoin_any _ _ _) ?_; rintro e w' ⟨rfl, hb'⟩)
              refine hK.out _ _ ⟨⟨gbel hb' hHeld.1.1 hHeld.1.2, Nat.le_trans hHeld.1.2 hb'.size⟩, gblk hb' hHeld.2.1, gblk hb' hHeld.2.2.1, gblk hb' hHeld.2.2.2.1, gblk hb' hHeld.2.2.2.2⟩ (fun hNew => ?_)
              clear hK K hHeld hb'
              have hHeld := hNew
              clear hNew
              try simp only [List.getElem_toArray, List.getElem_cons_succ, List.getElem_cons_zero, Act.put, List.setIfInBounds_toArray, List.set_cons_zero, List.set_cons_succ]
              refine wpAnyH_ready (rs := [13]) (by kernel_rfl) (by simp) ?_
              refine AllReadyH.cons rfl (fun K hK => ?_) AllReadyH.nil
              go_simp
              (refine Calls.mono (mcut_any gm dn M1 (joinF s st) _ ⟨by omega, hdn.2⟩ hHeld.2.2.1) ?_; rintro e w' ⟨rfl, hb'⟩; rw [hd])
              refine hK.out _ _ ⟨⟨gbel hb' hHeld.1.1 hHeld.1.2, Nat.le_trans hHeld.1.2 hb'.size⟩, gblk hb' hHeld.2.1, gblk hb' hHeld.2.2.1, gblk hb' hHeld.2.2.2.1, gblk hb' hHeld.2.2.2.2⟩ (fun hNew => ?_)
              clear hK K hHeld hb'
              have hHeld := hNew
              clear hNew
              try simp only [List.getElem_toArray, List.getElem_cons_succ, List.getElem_cons_zero, Act.put, List.setIfInBounds_toArray, List.set_cons_zero, List.set_cons_succ]
              refine wpAnyH_take (i := 15) (v := ?_) rfl (by kernel_rfl) (by kernel_rfl) (by kernel_rfl) (fun _ _ _ h => h) (Or.inl ⟨by rfl, ?_⟩) hHeld ?_
              rotate_left
              · intro w hSw; (try dsimp only at hSw); (try simp only [List.getElem_toArray, List.getElem_cons_succ, List.getElem_cons_zero]); (go_simp; try with_reducible rfl)
              try simp only [List.getElem_toArray, List.getElem_cons_succ, List.getElem_cons_zero, Act.put, List.setIfInBounds_toArray, List.set_cons_zero, List.set_cons_succ]
              refine wpAnyH_take (i := 16) (v := ?_) rfl (by kernel_rfl) (by kernel_rfl) (by kernel_rfl) (fun _ _ _ h => h) (Or.inl ⟨by rfl, ?_⟩) hHeld ?_
              rotate_left
              · intro w hSw; (try dsimp only at hSw); (try simp only [List.getElem_toArray, List.getElem_cons_succ, List.getElem_cons_zero]); (go_simp; try with_reducible rfl)
              try simp only [List.getElem_toArray, List.getElem_cons_succ, List.getElem_cons_zero, Act.put, List.setIfInBounds_toArray, List.set_cons_zero, List.set_cons_succ]
              refine wpAnyH_take (i := 17) rfl (by kernel_rfl) (by kernel_rfl) (by kernel_rfl) (fun _ _ _ h => h) (Or.inr ⟨by rfl, rfl⟩) hHeld ?_
              try simp only [List.getElem_toArray, List.getElem_cons_succ, List.getElem_cons_zero, Act.put, List.setIfInBounds_toArray, List.set_cons_zero, List.set_cons_succ]
              refine wpAnyH_take (i := 18) rfl (by kernel_rfl) (by kernel_rfl) (by kernel_rfl) (fun _ _ _ h => h) (Or.inr ⟨by rfl, rfl⟩) hHeld ?_
              try simp only [List.getElem_toArray, List.getElem_cons_succ, List.getElem_cons_zero, Act.put, List.setIfInBounds_toArray, List.set_cons_zero, List.set_cons_succ]
              refine wpAnyH_take (i := 19) rfl (by kernel_rfl) (by kernel_rfl) (by kernel_rfl) (fun _ _ _ h => h) (Or.inr ⟨by rfl, rfl⟩) hHeld ?_
              try simp only [List.getElem_toArray, List.getElem_cons_succ, List.getElem_cons_zero, Act.put, List.setIfInBounds_toArray, List.set_cons_zero, List.set_cons_succ]
              refine wpAnyH_take (i := 20) rfl (by kernel_rfl) (by kernel_rfl) (by kernel_rfl) (fun _ _ _ h => h) (Or.inr ⟨by rfl, rfl⟩) hHeld ?_
              try simp only [List.getElem_toArray, List.getElem_cons_succ, List.getElem_cons_zero, Act.put, List.setIfInBounds_toArray, List.set_cons_zero, List.set_cons_succ]
              refine wpAnyH_take (i := 21) rfl (by kernel_rfl) (by kernel_rfl) (by kernel_rfl) (fun _ _ _ h => h) (Or.inr ⟨by rfl, rfl⟩) hHeld ?_
              try simp only [List.getElem_toArray, List.getElem_cons_succ, List.getElem_cons_zero, Act.put, List.setIfInBounds_toArray, List.set_cons_zero, List.set_cons_succ]
              refine wpAnyH_take (i := 22) rfl (by kernel_rfl) (by kernel_rfl) (by kernel_rfl) (fun _ _ _ h => h) (Or.inr ⟨by rfl, rfl⟩) hHeld ?_
              try simp only [List.getElem_toArray, List.getElem_cons_succ, List.getElem_cons_zero, Act.put, List.setIfInBounds_toArray, List.set_cons_zero, List.set_cons_succ]
              refine wpAnyH_take (i := 23) (v := ?_) rfl (by kernel_rfl) (by kernel_rfl) (by kernel_rfl) (fun _ _ _ h => h) (Or.inl ⟨by rfl, ?_⟩) hHeld ?_
              rotate_left
              · intro w hSw; (try dsimp only at hSw); (try simp only [List.getElem_toArray, List.getElem_cons_succ, List.getElem_cons_zero]); (go_simp; try with_reducible rfl)
              try simp only [List.getElem_toArray, List.getElem_cons_succ, List.getElem_cons_zero, Act.put, List.setIfInBounds_toArray, List.set_cons_zero, List.set_cons_succ]
              refine wpAnyH_take (i := 24) (v := ?_) rfl (by kernel_rfl) (by kernel_rfl) (by kernel_rfl) (fun _ _ _ h => h) (Or.inl ⟨by rfl, ?_⟩) hHeld ?_
              rotate_left
              · intro w hSw; (try dsimp only at hSw); (try simp only [List.getElem_toArray, List.getElem_cons_succ, List.getElem_cons_zero]); (go_simp; try with_reducible rfl)
              try simp only [List.getElem_toArray, List.getElem_cons_succ, List.getElem_cons_zero, Act.put, List.setIfInBounds_toArray, List.set_cons_zero, List.set_cons_succ]
              refine wpAnyH_done (by kernel_rfl) ?_ _
              have Q := Lib.hid hHeld
              clear hHeld k0 k1 k2 hZ hC
              go_wp2
              go_roundw
              case rel => exact ⟨k + 1, by omega, by go_num, Q.out.1.1, Q.out.2.1, by rw [E.out]; exact Q.out.2.2.1⟩
              case measure => simp [intOf]; omega
            · go_wp2_with fail
              refine wp_region_held_drew (S := fun w' => (Below g5 w w' ∧ g5 ≤ w'.heap.size) ∧ blk w' g5 = some (.cells (vv s) 23) ∧ MX w' gm dn M1 ∧ blk w' gz = some (.cells (vv st) 23) ∧ blk w' gc = some (.cells (vv c) 23)) (by kernel_rfl) ⟨⟨k0.out.drew, Nat.le_of_lt (VBox.lt k1)⟩, k1, k2, hZ, hC⟩ (fun hHeld => ?_)
              refine wpAnyH_take (i := 0) (v := ?_) rfl (by kernel_rfl) (by kernel_rfl) (by kernel_rfl) (fun _ _ _ h => h) (Or.inl ⟨by rfl, ?_⟩) hHeld ?_
              rotate_left
              · intro w hSw; (try dsimp only at hSw); (try simp only [List.getElem_toArray, List.getElem_cons_succ, List.getElem_cons_zero]); (go_simp; try with_reducible rfl)
              try simp only [List.getElem_toArray, List.getElem_cons_succ, List.getElem_cons_zero, Act.put, List.setIfInBounds_toArray, List.set_cons_zero, List.set_cons_succ]
              refine wpAnyH_take (i := 1) (v := ?_) rfl (by kernel_rfl) (by kernel_rfl) (by kernel_rfl) (fun _ _ _ h => h) (Or.inl ⟨by rfl, ?_⟩) hHeld ?_
              rotate_left
              · intro w hSw; (try dsimp only at hSw); (try simp only [List.getElem_toArray, List.getElem_cons_succ, List.getElem_cons_zero]); (go_simp; try with_reducible rfl)
              try simp only [List.getElem_toArray, List.getElem_cons_succ, List.getElem_cons_zero, Act.put, List.setIfInBounds_toArray, List.set_cons_zero, List.set_cons_succ]
              refine wpAnyH_take (i := 2) (v := ?_) rfl (by kernel_rfl) (by kernel_rfl) (by kernel_rfl) (fun _ _ _ h => h) (Or.inl ⟨by rfl, ?_⟩) hHeld ?_
              rotate_left
              · intro w hSw; (try dsimp only at hSw); (try simp only [List.getElem_toArray, List.getElem_cons_succ, List.getElem_cons_zero]); (go_simp; try with_reducible rfl)
              try simp only [List.getElem_toArray, List.getElem_cons_succ, List.getElem_cons_zero, Act.put, List.setIfInBounds_toArray, List.set_cons_zero, List.set_cons_succ]
              refine wpAnyH_take (i := 3) (v := ?_) rfl (by kernel_rfl) (by kernel_rfl) (by kernel_rfl) (fun _ _ _ h => h) (Or.inl ⟨by rfl, ?_⟩) hHeld ?_
              rotate_left
              · intro w hSw; (try dsimp only at hSw); (try simp only [List.getElem_toArray, List.getElem_cons_succ, List.getElem_cons_zero]); (go_simp; try with_reducible rfl)
              try simp only [List.getElem_toArray, List.getElem_cons_succ, List.getElem_cons_zero, Act.put, List.setIfInBounds_toArray, List.set_cons_zero, List.set_cons_succ]
              refine wpAnyH_take (i := 4) (v := ?_) rfl (by kernel_rfl) (by kernel_rfl) (by kernel_rfl) (fun _ _ _ h => h) (Or.inl ⟨by rfl, ?_⟩) hHeld ?_
              rotate_left
              · intro w hSw; (try dsimp only at hSw); (try simp only [List.getElem_toArray, List.getElem_cons_succ, List.getElem_cons_zero]); (go_simp; try with_reducible rfl)
              try simp only [List.getElem_toArray, List.getElem_cons_succ, List.getElem_cons_zero, Act.put, List.setIfInBounds_toArray, List.set_cons_zero, List.set_cons_succ]
              refine wpAnyH_take (i := 5) (v := ?_) rfl (by kernel_rfl) (by kernel_rfl) (by kernel_rfl) (fun _ _ _ h => h) (Or.inl ⟨by rfl, ?_⟩) hHeld ?_
              rotate_left
              · intro w hSw; (try dsimp only at hSw); (try simp only [List.getElem_toArray, List.getElem_cons_succ, List.getElem_cons_zero]); (go_simp; try with_reducible rfl)
              try simp only [List.getElem_toArray, List.getElem_cons_succ, List.getElem_cons_zero, Act.put, List.setIfInBounds_toArray, List.set_cons_zero, List.set_cons_succ]
              refine wpAnyH_take (i := 6) (v := ?_) rfl (by kernel_rfl) (by kernel_rfl) (by kernel_rfl) (fun _ _ _ h => h) (Or.inl ⟨by rfl, ?_⟩) hHeld ?_
              rotate_left
              · intro w hSw; (try dsimp only at hSw); (try simp only [List.getElem_toArray, List.getElem_cons_succ, List.getElem_cons_zero]); (go_simp; try with_reducible rfl)
              try simp only [List.getElem_toArray, List.getElem_cons_succ, List.getElem_cons_zero, Act.put, List.setIfInBounds_toArray, List.set_cons_zero, List.set_cons_succ]
              refine wpAnyH_take (i := 7) (v := ?_) rfl (by kernel_rfl) (by kernel_rfl) (by kernel_rfl) (fun _ _ _ h => h) (Or.inl ⟨by rfl, ?_⟩) hHeld ?_
              rotate_left
              · intro w hSw; (try dsimp only at hSw); (try simp only [List.getElem_toArray, List.getElem_cons_succ, List.getElem_cons_zero]); (go_simp; try with_reducible rfl)
              try simp only [List.getElem_toArray, List.getElem_cons_succ, List.getElem_cons_zero, Act.put, List.setIfInBounds_toArray, List.set_cons_zero, List.set_cons_succ]
              refine wpAnyH_take (i := 8) (v := ?_) rfl (by kernel_rfl) (by kernel_rfl) (by kernel_rfl) (fun _ _ _ h => h) (Or.inl ⟨by rfl, ?_⟩) hHeld ?_
              rotate_left
              · intro w hSw; (try dsimp only at hSw); (try simp only [List.getElem_toArray, List.getElem_cons_succ, List.getElem_cons_zero]); (go_simp; try with_reducible rfl)
              try simp only [List.getElem_toArray, List.getElem_cons_succ, List.getElem_cons_zero, Act.put, List.setIfInBounds_toArray, List.set_cons_zero, List.set_cons_succ]
              refine wpAnyH_take (i := 9) (v := ?_) rfl (by kernel_rfl) (by kernel_rfl) (by kernel_rfl) (fun _ _ _ h => h) (Or.inl ⟨by rfl, ?_⟩) hHeld ?_
              rotate_left
              · intro w hSw; (try dsimp only at hSw); (try simp only [List.getElem_toArray, List.getElem_cons_succ, List.getElem_cons_zero]); (go_simp; try with_reducible rfl)
              try simp only [List.getElem_toArray, List.getElem_cons_succ, List.getElem_cons_zero, Act.put, List.setIfInBounds_toArray, List.set_cons_zero, List.set_cons_succ]
              refine wpAnyH_take (i := 10) (v := ?_) rfl (by kernel_rfl) (by kernel_rfl) (by kernel_rfl) (fun _ _ _ h => h) (Or.inl ⟨by rfl, ?_⟩) hHeld ?_
              rotate_left
              · intro w hSw; (try dsimp only at hSw); (try simp only [List.getElem_toArray, List.getElem_cons_succ, List.getElem_cons_zero]); (go_simp; try with_reducible rfl)
              try simp only [List.getElem_toArray, List.getElem_cons_succ, List.getElem_cons_zero, Act.put, List.setIfInBounds_toArray, List.set_cons_zero, List.set_cons_succ]
              refine wpAnyH_take (i := 11) (v := ?_) rfl (by kernel_rfl) (by kernel_rfl) (by kernel_rfl) (fun _ _ _ h => h) (Or.inl ⟨by rfl, ?_⟩) hHeld ?_
              rotate_left
              · intro w hSw; (try dsimp only at hSw); (try simp only [List.getElem_toArray, List.getElem_cons_succ, List.getElem_cons_zero]); (go_simp; try with_reducible rfl)
              try simp only [List.getElem_toArray, List.getElem_cons_succ, List.getElem_cons_zero, Act.put, List.setIfInBounds_toArray, List.set_cons_zero, List.set_cons_succ]
              refine wpAnyH_take (i := 14) (v := ?_) rfl (by kernel_rfl) (by kernel_rfl) (by kernel_rfl) (fun _ _ _ h => h) (Or.inl ⟨by rfl, ?_⟩) hHeld ?_
              rotate_left
              · intro w hSw; (try dsimp only at hSw); (try simp only [List.getElem_toArray, List.getElem_cons_succ, List.getElem_cons_zero]); (go_simp; try with_reducible rfl)
              try simp only [List.getElem_toArray, List.getElem_cons_succ, List.getElem_cons_zero, Act.put, List.setIfInBounds_toArray, List.set_cons_zero, List.set_cons_succ]
              refine wpAnyH_ready (rs := [12]) (by kernel_rfl) (by simp) ?_
              refine AllReadyH.cons rfl (fun K hK => ?_) AllReadyH.nil
              go_simp
              (refine Calls.mono (rjoin_any _ _ _) ?_; rintro e w' ⟨rfl, hb'⟩)
              refine hK.out _ _ ⟨⟨gbel hb' hHeld.1.1 hHeld.1.2, Nat.le_trans hHeld.1.2 hb'.size⟩, gblk hb' hHeld.2.1, gblk hb' hHeld.2.2.1, gblk hb' hHeld.2.2.2.1, gblk hb' hHeld.2.2.2.2⟩ (fun hNew => ?_)
              clear hK K hHeld hb'
              have hHeld := hNew
              clear hNew
              try simp only [List.getElem_toArray, List.getElem_cons_succ, List.getElem_cons_zero, Act.put, List.setIfInBounds_toArray, List.set_cons_zero, List.set_cons_succ]
              refine wpAnyH_ready (rs := [13]) (by kernel_rfl) (by simp) ?_
              refine AllReadyH.cons rfl (fun K hK => ?_) AllReadyH.nil
              go_simp
              (refine Calls.mono (mcut_any gm dn M1 (joinF s st) _ ⟨by omega, hdn.2⟩ hHeld.2.2.1) ?_; rintro e w' ⟨rfl, hb'⟩; rw [hd])
              refine hK.out _ _ ⟨⟨gbel hb' hHeld.1.1 hHeld.1.2, Nat.le_trans hHeld.1.2 hb'.size⟩, gblk hb' hHeld.2.1, gblk hb' hHeld.2.2.1, gblk hb' hHeld.2.2.2.1, gblk hb' hHeld.2.2.2.2⟩ (fun hNew => ?_)
              clear hK K hHeld hb'
              have hHeld := hNew
              clear hNew
              try simp only [List.getElem_toArray, List.getElem_cons_succ, List.getElem_cons_zero, Act.put, List.setIfInBounds_toArray, List.set_cons_zero, List.set_cons_succ]
              refine wpAnyH_take (i := 15) (v := ?_) rfl (by kernel_rfl) (by kernel_rfl) (by kernel_rfl) (fun _ _ _ h => h) (Or.inl ⟨by rfl, ?_⟩) hHeld ?_
              rotate_left
              · intro w hSw; (try dsimp only at hSw); (try simp only [List.getElem_toArray, List.getElem_cons_succ, List.getElem_cons_zero]); (go_simp; try with_reducible rfl)
              try simp only [List.getElem_toArray, List.getElem_cons_succ, List.getElem_cons_zero, Act.put, List.setIfInBounds_toArray, List.set_cons_zero, List.set_cons_succ]
              refine wpAnyH_take (i := 16) (v := ?_) rfl (by kernel_rfl) (by kernel_rfl) (by kernel_rfl) (fun _ _ _ h => h) (Or.inl ⟨by rfl, ?_⟩) hHeld ?_
              rotate_left
              · intro w hSw; (try dsimp only at hSw); (try simp only [List.getElem_toArray, List.getElem_cons_succ, List.getElem_cons_zero]); (go_simp; try with_reducible rfl)
              try simp only [List.getElem_toArray, List.getElem_cons_succ, List.getElem_cons_zero, Act.put, List.setIfInBounds_toArray, List.set_cons_zero, List.set_cons_succ]
              refine wpAnyH_take (i := 17) (v := ?_) rfl (by kernel_rfl) (by kernel_rfl) (by kernel_rfl) (fun _ _ _ h => h) (Or.inl ⟨by rfl, ?_⟩) hHeld ?_
              rotate_left
              · intro w hSw; (try dsimp only at hSw); (try simp only [List.getElem_toArray, List.getElem_cons_succ, List.getElem_cons_zero]); (go_simp; try with_reducible rfl)
              try simp only [List.getElem_toArray, List.getElem_cons_succ, List.getElem_cons_zero, Act.put, List.setIfInBounds_toArray, List.set_cons_zero, List.set_cons_succ]
              refine wpAnyH_take (i := 18) (v := ?_) rfl (by kernel_rfl) (by kernel_rfl) (by kernel_rfl) (fun _ _ _ h => h) (Or.inl ⟨by rfl, ?_⟩) hHeld ?_
              rotate_left
              · intro w hSw; (try dsimp only at hSw); (try simp only [List.getElem_toArray, List.getElem_cons_succ, List.getElem_cons_zero]); (go_simp; try with_reducible rfl)
              try simp only [List.getElem_toArray, List.getElem_cons_succ, List.getElem_cons_zero, Act.put, List.setIfInBounds_toArray, List.set_cons_zero, List.set_cons_succ]
              refine wpAnyH_take (i := 19) (v := ?_) rfl (by kernel_rfl) (by kernel_rfl) (by kernel_rfl) (fun _ _ _ h => h) (Or.inl ⟨by rfl, ?_⟩) hHeld ?_
              rotate_left
              · intro w hSw; (try dsimp only at hSw); (try simp only [List.getElem_toArray, List.getElem_cons_succ, List.getElem_cons_zero]); (go_simp; try with_reducible rfl)
              try simp only [List.getElem_toArray, List.getElem_cons_succ, List.getElem_cons_zero, Act.put, List.setIfInBounds_toArray, List.set_cons_zero, List.set_cons_succ]
              refine wpAnyH_take (i := 20) (v := ?_) rfl (by kernel_rfl) (by kernel_rfl) (by kernel_rfl) (fun _ _ _ h => h) (Or.inl ⟨by rfl, ?_⟩) hHeld ?_
              rotate_left
              · intro w hSw; (try dsimp only at hSw); (try simp only [List.getElem_toArray, List.getElem_cons_succ, List.getElem_cons_zero]); (go_simp; try with_reducible rfl)
              try simp only [List.getElem_toArray, List.getElem_cons_succ, List.getElem_cons_zero, Act.put, List.setIfInBounds_toArray, List.set_cons_zero, List.set_cons_succ]
              refine wpAnyH_ready (rs := [21]) (by kernel_rfl) (by simp) ?_
              refine AllReadyH.cons rfl (fun K hK => ?_) AllReadyH.nil
              go_simp
              (refine Calls.mono (rjoin_any _ _ _) ?_; rintro e w' ⟨rfl, hb'⟩)
              refine hK.out _ _ ⟨⟨gbel hb' hHeld.1.1 hHeld.1.2, Nat.le_trans hHeld.1.2 hb'.size⟩, gblk hb' hHeld.2.1, gblk hb' hHeld.2.2.1, gblk hb' hHeld.2.2.2.1, gblk hb' hHeld.2.2.2.2⟩ (fun hNew => ?_)
              clear hK K hHeld hb'
              have hHeld := hNew
              clear hNew
              try simp only [List.getElem_toArray, List.getElem_cons_succ, List.getElem_cons_zero, Act.put, List.setIfInBounds_toArray, List.set_cons_zero, List.set_cons_succ]
              refine wpAnyH_ready (rs := [22]) (by kernel_rfl) (by simp) ?_
              refine AllReadyH.cons rfl (fun K hK => ?_) AllReadyH.nil
              go_simp
              (refine Calls.mono (whole_any gm dn M1 (joinF s st) _ ⟨by omega, hdn.2⟩ hHeld.2.2.1) ?_; rintro e w' ⟨rfl, hb'⟩; rw [hw])
              refine hK.out _ _ ⟨⟨gbel hb' hHeld.1.1 hHeld.1.2, Nat.le_trans hHeld.1.2 hb'.size⟩, gblk hb' hHeld.2.1, gblk hb' hHeld.2.2.1, gblk hb' hHeld.2.2.2.1, gblk hb' hHeld.2.2.2.2⟩ (fun hNew => ?_)
              clear hK K hHeld hb'
              have hHeld := hNew
              clear hNew
              try simp only [List.getElem_toArray, List.getElem_cons_succ, List.getElem_cons_zero, Act.put, List.setIfInBounds_toArray, List.set_cons_zero, List.set_cons_succ]
              refine wpAnyH_take (i := 23) (v := ?_) rfl (by kernel_rfl) (by kernel_rfl) (by kernel_rfl) (fun _ _ _ h => h) (Or.inl ⟨by rfl, ?_⟩) hHeld ?_
              rotate_left
              · intro w hSw; (try dsimp only at hSw); (try simp only [List.getElem_toArray, List.getElem_cons_succ, List.getElem_cons_zero]); (go_simp; try with_reducible rfl)
              try simp only [List.getElem_toArray, List.getElem_cons_succ, List.getElem_cons_zero, Act.put, List.setIfInBounds_toArray, List.set_cons_zero, List.set_cons_succ]
              refine wpAnyH_take (i := 24) (v := ?_) rfl (by kernel_rfl) (by kernel_rfl) (by kernel_rfl) (fun _ _ _ h => h) (Or.inl ⟨by rfl, ?_⟩) hHeld ?_
              rotate_left
              · intro w hSw; (try dsimp only at hSw); (try simp only [List.getElem_toArray, List.getElem_cons_succ, List.getElem_cons_zero]); (go_simp; try with_reducible rfl)
              try simp only [List.getElem_toArray, List.getElem_cons_succ, List.getElem_cons_zero, Act.put, List.setIfInBounds_toArray, List.set_cons_zero, List.set_cons_succ]
              refine wpAnyH_done (by kernel_rfl) ?_ _
              have Q := Lib.hid hHeld
              clear hHeld k0 k1 k2 hZ hC
              go_wp2
              go_roundw
              case rel => exact ⟨k + 1, by omega, by go_num, Q.out.1.1, Q.out.2.1, by rw [E.out]; exact Q.out.2.2.1⟩
              case measure => simp [intOf]; omega
    · have P0 := Lib.hid k0
      clear k0 k1 k2
      go_wp2
      go_ret
      first
        | exact ⟨rfl, P0.out⟩
        | exact ⟨rfl, P0.out.mono (Nat.le_of_eq hg5)⟩

theorem walk (n : Int) (a : Option Addr) (len cap : Nat) (c2 : List Value) (w : World) (w0 : (Lit.int .i64 n).wf = true) (hl : len ≤ cap) (hm : cap ≤ maxLen) (hr : RowsIn [.int .i64, .int .i64, .int .i64, .int .i64, .int .i64, .int .i64, .int .i64, .int .i64, .int .i64, .int .i64, .int .i64, .int .i64, .int .i64, .int .i64, .int .i64, .int .i64, .int .i64] w a len)
    (h2 : LeavesOk [.int .i64, .int .i64, .int .i64, .int .i64, .int .i64, .int .i64, .int .i64, .int .i64, .int .i64, .int .i64, .int .i64, .int .i64, .int .i64, .int .i64, .int .i64, .int .i64] c2) :
    Calls Try.prog 9 #[.int .i64 n, .slice a len cap, .agg c2.toArray] w fun e w' => e = .returned (.bool true) ∧ Below w.heap.size w w' := by
  obtain ⟨L, rfl, hL, _⟩ := ops_of hl hm hr
  obtain ⟨s, es, _⟩ := vv_of h2
  rw [es]
  exact walk_op n a cap L s w hL

end Go.Proofs.Ythjeginhoddmiaa.matrixRises
