/- The contract of See. No conditions but the number of replicas. -/
import Derived.Test.YthjeginhoddmiaaMxStable
import Derived.Test.YthjeginhoddmiaaHeldC
import Derived.Test.YthjeginhoddmiaaVecJoin
import Derived.Test.YthjeginhoddmiaaVecRight
import Derived.Laws.AppendOwn
namespace Go.Proofs.Ythjeginhoddmiaa
open Go.RowKit
attribute [local go_sem] bmax2_int bmin2_int bmax_two bmin_two blk_alloc blk_setRow blk_setCell blk_drew blk_drewN alloc_setRow cell_setRow_ne drew_setRow drewN_setRow fold_z0 vv_size vv_get vv_set
attribute [local go_sem ↓] exec_load_vv exec_store_vv exec_index_vv exec_eql_vv exec_neq_vv
attribute [local go_sem] loadVV_at storeVV_at indexVV_at eqVV_eql eqVV_neq ne_r2 ne_l2 ne_r3 ne_l3 ne_r4 ne_l4 ne_r5 ne_l5 ne_r6 ne_l6 ne_r7 ne_l7 ne_r8 ne_l8
set_option linter.unusedVariables false
set_option linter.unusedSimpArgs false
attribute [local go_sem] mxA_size rowM_mx putM_mx loadVV_mx storeVV_mx buildMX_int
attribute [local go_sem ↓] exec_build_mx exec_build_mx0

theorem below_grown {w w' : World} {row : Option Nat} (h : Below w.heap.size w w') : w.grownBy w' row := ⟨h.os, h.tape, h.output, h.size, fun k hk _ => h.block k hk⟩
theorem setRow_grown (w : World) (g : Nat) (cs : Array Value) : w.grownBy (w.setRow g cs) (some g) := ⟨rfl, rfl, rfl, by simp, fun k hk hne => setRow_other _ _ _ _ (fun e => hne (by rw [e]))⟩
theorem grown_trans {a b c : World} {row : Option Nat} (h : a.grownBy b row) (k : b.grownBy c row) : a.grownBy c row :=
  ⟨k.os.trans h.os, k.tape.trans h.tape, k.output.trans h.output, Nat.le_trans h.size k.size, fun i hi hne => (k.block i (Nat.lt_of_lt_of_le hi h.size) hne).trans (h.block i hi hne)⟩
theorem grown_drew {w w' : World} {row : Option Nat} (h : w.grownBy w' row) : w.grownBy w'.drew row := ⟨h.os, h.tape, h.output, h.size, h.block⟩
/-- what lies in another block is as it was. -/
theorem grown_blk {w w' : World} {g k : Nat} {o : Obj} (h : w.grownBy w' (some g)) (hk : k ≠ g) (hb : blk w k = some o) : blk w' k = some o := by
  unfold blk at *
  rw [h.block k (Array.getElem?_eq_some_iff.1 hb).1 (fun e => hk (by simpa using e))]; exact hb
/-- the call's own new memory: what was there before is as it was. -/
theorem grown_new {w0 w w' : World} {g : Nat} {B : Nat} (h : w.grownBy w' (some g)) (hB : B ≤ w.heap.size) (hg : B ≤ g) (hb : Below B w0 w) : Below B w0 w' :=
  hb.trans ⟨h.os, h.tape, h.output, h.size, fun k hk => h.block k (by omega) (fun e => by injection e; omega)⟩

def seeB (n r : Int) (v : Nat → Int) : Bool := hasI n r && rightB v
def seeE (n r : Int) (v : Nat → Int) : Int := if seeB n r v then 0 else 1
def seeM (n : Int) (M : Nat → Nat → Int) (r : Int) (v : Nat → Int) : Nat → Nat → Int := if seeB n r v then setM M r.toNat (joinF (M r.toNat) v) else M

theorem msee_none (r : Int) (v : Nat → Int) (w : World) :
    Calls Try.prog 32 #[.pointer none, .int .i64 r, .agg (vv v)] w fun e w' => e = .returned (.int .i64 1) ∧ Below w.heap.size w w' := by
  go_enter Try.func32, Try.ntmps32
  go_wp2_with fail
  have k0 := Lib.hid ((Below.refl w.heap.size w).alloc (Nat.le_refl _) (Obj.cells (vv v) 23))
  generalize w.alloc (Obj.cells (vv v) 23) = w1 at *
  generalize hg : w.heap.size = g at *
  refine Calls.mono (mhas_none _ _) ?_
  rintro e w2 ⟨rfl, hb'⟩
  replace k0 := Lib.hid (k0.out.trans (hb'.mono (by have := k0.out.size; omega)))
  clear hb'
  go_wp2
  go_ret
  exact ⟨rfl, k0.out.mono (Nat.le_of_eq hg)⟩

set_option maxHeartbeats 1000000 in
theorem msee_any (g : Nat) (n r : Int) (v : Nat → Int) (M : Nat → Nat → Int) (w : World) (hn : n ≤ 16) (h : MX w g n M) :
    Calls Try.prog 32 #[.pointer (some ⟨g, 0, none⟩), .int .i64 r, .agg (vv v)] w fun e w' => e = .returned (.int .i64 (seeE n r v)) ∧ MX w' g n (seeM n M r v) ∧ w.grownBy w' (some g) := by
  have hE : Hid (seeE n r v = if seeB n r v then 0 else 1) := Lib.hid rfl
  have hM : Hid (seeM n M r v = if seeB n r v then setM M r.toNat (joinF (M r.toNat) v) else M) := Lib.hid rfl
  have hS : Hid (seeB n r v = (hasI n r && rightB v)) := Lib.hid rfl
  go_enter Try.func32, Try.ntmps32
  go_wp2_with fail
  have k0 := Lib.hid (World.grownBy_alloc w (Obj.cells (vv v) 23) (some g))
  have k1 := gblk_new w (Obj.cells (vv v) 23)
  have k2 := gblk_alloc (Obj.cells (vv v) 23) h
  clear h
  generalize w.alloc (Obj.cells (vv v) 23) = w1 at *
  generalize w.heap.size = b at *
  refine Calls.mono (mhas_any g n r M _ k2) ?_
  rintro e w2 ⟨rfl, hb'⟩
  replace k0 := Lib.hid (grown_trans k0.out (below_grown hb'))
  replace k1 := gblk hb' k1
  replace k2 := gblk hb' k2
  clear hb'
  by_cases hh : hasI n r = true
  · rw [hh]
    go_wp2_with fail
    refine Calls.mono (right_any _ _) ?_
    rintro e w3 ⟨rfl, hb'⟩
    replace k0 := Lib.hid (grown_trans k0.out (below_grown hb'))
    replace k1 := gblk hb' k1
    replace k2 := gblk hb' k2
    clear hb'
    by_cases hr : rightB v = true
    · rw [hr]
      rw [hh, hr] at hS
      rw [show seeB n r v = true from hS.out, if_pos rfl] at hE hM
      obtain ⟨q1, q2⟩ := of_decide_eq_true (show decide (0 ≤ r ∧ r < n) = true from hh)
      obtain ⟨k, rfl⟩ := Int.eq_ofNat_of_zero_le q1
      have hk : k < 16 := by omega
      have hk2 : (k : Int) < 16 := by omega
      have hne := blk_ne k1 k2
      clear q1 q2 hh hr
      go_wp2_with fail
      refine wp_region_heldK (s := 13) (S := fun w' => w.grownBy w' (some g) ∧ blk w' b = some (.cells (vv v) 23) ∧ blk w' g = some (.cells (mxA n M) 64)) (by kernel_rfl) ⟨grown_drew k0.out, k1, k2⟩ (fun hHeld => ?_)
      refine wpAnyC_take (i := 0) (v := ?_) rfl (by kernel_rfl) (by kernel_rfl) (by kernel_rfl) (by kernel_rfl) (by kernel_rfl) (by kernel_rfl) (fun _ _ _ h => h) (Or.inl ⟨by rfl, ?_⟩) hHeld ?_
      rotate_left
      · intro w hSw; (try dsimp only at hSw); (try simp only [List.getElem_toArray, List.getElem_cons_succ, List.getElem_cons_zero]); (go_simp; try with_reducible rfl)
      try simp only [List.getElem_toArray, List.getElem_cons_succ, List.getElem_cons_zero, Act.put, List.setIfInBounds_toArray, List.set_cons_zero, List.set_cons_succ]
      refine wpAnyC_take (i := 1) (v := ?_) rfl (by kernel_rfl) (by kernel_rfl) (by kernel_rfl) (by kernel_rfl) (by kernel_rfl) (by kernel_rfl) (fun _ _ _ h => h) (Or.inl ⟨by rfl, ?_⟩) hHeld ?_
      rotate_left
      · intro w hSw; (try dsimp only at hSw); (try simp only [List.getElem_toArray, List.getElem_cons_succ, List.getElem_cons_zero]); (go_simp; try with_reducible rfl)
      try simp only [List.getElem_toArray, List.getElem_cons_succ, List.getElem_cons_zero, Act.put, List.setIfInBounds_toArray, List.set_cons_zero, List.set_cons_succ]
      refine wpAnyC_take (i := 2) (v := ?_) rfl (by kernel_rfl) (by kernel_rfl) (by kernel_rfl) (by kernel_rfl) (by kernel_rfl) (by kernel_rfl) (fun _ _ _ h => h) (Or.inl ⟨by rfl, ?_⟩) hHeld ?_
      rotate_left
      · intro w hSw; (try dsimp only at hSw); (try simp only [List.getElem_toArray, List.getElem_cons_succ, List.getElem_cons_zero]); (go_simp; try with_reducible rfl)
      try simp only [List.getElem_toArray, List.getElem_cons_succ, List.getElem_cons_zero, Act.put, List.setIfInBounds_toArray, List.set_cons_zero, List.set_cons_succ]
      refine wpAnyC_take (i := 3) (v := ?_) rfl (by kernel_rfl) (by kernel_rfl) (by kernel_rfl) (by kernel_rfl) (by kernel_rfl) (by kernel_rfl) (fun _ _ _ h => h) (Or.inl ⟨by rfl, ?_⟩) hHeld ?_
      rotate_left
      · intro w hSw; (try dsimp only at hSw); (try simp only [List.getElem_toArray, List.getElem_cons_succ, List.getElem_cons_zero]); (go_simp; try with_reducible rfl)
      try simp only [List.getElem_toArray, List.getElem_cons_succ, List.getElem_cons_zero, Act.put, List.setIfInBounds_toArray, List.set_cons_zero, List.set_cons_succ]
      refine wpAnyC_take (i := 4) (v := ?_) rfl (by kernel_rfl) (by kernel_rfl) (by kernel_rfl) (by kernel_rfl) (by kernel_rfl) (by kernel_rfl) (fun _ _ _ h => h) (Or.inl ⟨by rfl, ?_⟩) hHeld ?_
      rotate_left
      · intro w hSw; (try dsimp only at hSw); (try simp only [List.getElem_toArray, List.getElem_cons_succ, List.getElem_cons_zero]); (go_simp; try with_reducible rfl)
      try simp only [List.getElem_toArray, List.getElem_cons_succ, List.getElem_cons_zero, Act.put, List.setIfInBounds_toArray, List.set_cons_zero, List.set_cons_succ]
      refine wpAnyC_take (i := 5) (v := ?_) rfl (by kernel_rfl) (by kernel_rfl) (by kernel_rfl) (by kernel_rfl) (by kernel_rfl) (by kernel_rfl) (fun _ _ _ h => h) (Or.inl ⟨by rfl, ?_⟩) hHeld ?_
      rotate_left
      · intro w hSw; (try dsimp only at hSw); (try simp only [List.getElem_toArray, List.getElem_cons_succ, List.getElem_cons_zero]); (go_simp; try with_reducible rfl)
      try simp only [List.getElem_toArray, List.getElem_cons_succ, List.getElem_cons_zero, Act.put, List.setIfInBounds_toArray, List.set_cons_zero, List.set_cons_succ]
      refine wpAnyC_take (i := 6) (v := ?_) rfl (by kernel_rfl) (by kernel_rfl) (by kernel_rfl) (by kernel_rfl) (by kernel_rfl) (by kernel_rfl) (fun _ _ _ h => h) (Or.inl ⟨by rfl, ?_⟩) hHeld ?_
      rotate_left
      · intro w hSw; (try dsimp only at hSw); (try simp only [List.getElem_toArray, List.getElem_cons_succ, List.getElem_cons_zero]); (go_simp; try with_reducible rfl)
      try simp only [List.getElem_toArray, List.getElem_cons_succ, List.getElem_cons_zero, Act.put, List.setIfInBounds_toArray, List.set_cons_zero, List.set_cons_succ]
      refine wpAnyC_take (i := 7) (v := ?_) rfl (by kernel_rfl) (by kernel_rfl) (by kernel_rfl) (by kernel_rfl) (by kernel_rfl) (by kernel_rfl) (fun _ _ _ h => h) (Or.inl ⟨by rfl, ?_⟩) hHeld ?_
      rotate_left
      · intro w hSw; (try dsimp only at hSw); (try simp only [List.getElem_toArray, List.getElem_cons_succ, List.getElem_cons_zero]); (go_simp; try with_reducible rfl)
      try simp only [List.getElem_toArray, List.getElem_cons_succ, List.getElem_cons_zero, Act.put, List.setIfInBounds_toArray, List.set_cons_zero, List.set_cons_succ]
      refine wpAnyC_take (i := 8) (v := ?_) rfl (by kernel_rfl) (by kernel_rfl) (by kernel_rfl) (by kernel_rfl) (by kernel_rfl) (by kernel_rfl) (fun _ _ _ h => h) (Or.inl ⟨by rfl, ?_⟩) hHeld ?_
      rotate_left
      · intro w hSw; (try dsimp only at hSw); (try simp only [List.getElem_toArray, List.getElem_cons_succ, List.getElem_cons_zero]); (go_simp; try with_reducible rfl)
      try simp only [List.getElem_toArray, List.getElem_cons_succ, List.getElem_cons_zero, Act.put, List.setIfInBounds_toArray, List.set_cons_zero, List.set_cons_succ]
      refine wpAnyC_take (i := 10) (v := ?_) rfl (by kernel_rfl) (by kernel_rfl) (by kernel_rfl) (by kernel_rfl) (by kernel_rfl) (by kernel_rfl) (fun _ _ _ h => h) (Or.inl ⟨by rfl, ?_⟩) hHeld ?_
      rotate_left
      · intro w hSw; (try dsimp only at hSw); (try simp only [List.getElem_toArray, List.getElem_cons_succ, List.getElem_cons_zero]); (go_simp; try with_reducible rfl)
      try simp only [List.getElem_toArray, List.getElem_cons_succ, List.getElem_cons_zero, Act.put, List.setIfInBounds_toArray, List.set_cons_zero, List.set_cons_succ]
      refine wpAnyC_take (i := 11) (v := ?_) rfl (by kernel_rfl) (by kernel_rfl) (by kernel_rfl) (by kernel_rfl) (by kernel_rfl) (by kernel_rfl) (fun _ _ _ h => h) (Or.inl ⟨by rfl, ?_⟩) hHeld ?_
      rotate_left
      · intro w hSw; (try dsimp only at hSw); (try simp only [List.getElem_toArray, List.getElem_cons_succ, List.getElem_cons_zero]); (go_simp; try with_reducible rfl)
      try simp only [List.getElem_toArray, List.getElem_cons_succ, List.getElem_cons_zero, Act.put, List.setIfInBounds_toArray, List.set_cons_zero, List.set_cons_succ]
      refine wpAnyK_one (i := 9) (by kernel_rfl) rfl (fun K hK => ?_)
      (try simp only [List.getElem_toArray, List.getElem_cons_succ, List.getElem_cons_zero])
      go_simp
      (refine Calls.mono (join_any _ _ _) ?_; rintro x w6 ⟨rfl, hb'⟩)
      have hNew := (show _ ∧ _ ∧ _ from ⟨grown_trans hHeld.1 (below_grown hb'), gblk hb' hHeld.2.1, gblk hb' hHeld.2.2⟩)
      refine hK.out _ _ (Or.inr hNew) ?_
      clear hK K hHeld hb'
      have hHeld := hNew
      clear hNew
      try simp only [List.getElem_toArray, List.getElem_cons_succ, List.getElem_cons_zero, Act.put, List.setIfInBounds_toArray, List.set_cons_zero, List.set_cons_succ]
      refine wpAnyC_take (i := 12) (v := ?_) rfl (by kernel_rfl) (by kernel_rfl) (by kernel_rfl) (by kernel_rfl) (by kernel_rfl) (by kernel_rfl) (fun _ _ _ h => h) (Or.inl ⟨by rfl, ?_⟩) hHeld ?_
      rotate_left
      · intro w hSw; (try dsimp only at hSw); (try simp only [List.getElem_toArray, List.getElem_cons_succ, List.getElem_cons_zero]); (go_simp; try with_reducible rfl)
      try simp only [List.getElem_toArray, List.getElem_cons_succ, List.getElem_cons_zero, Act.put, List.setIfInBounds_toArray, List.set_cons_zero, List.set_cons_succ]
      obtain ⟨p0, p1, p2⟩ := id hHeld
      refine wpAnyK_one (i := 13) (by kernel_rfl) rfl (fun K hK => ?_)
      (try simp only [List.getElem_toArray, List.getElem_cons_succ, List.getElem_cons_zero])
      go_simp
      refine hK.out _ _ (Or.inl (by kernel_rfl)) ?_
      clear hK K
      try simp only [List.getElem_toArray, List.getElem_cons_succ, List.getElem_cons_zero, Act.put, List.setIfInBounds_toArray, List.set_cons_zero, List.set_cons_succ]
      refine wpAnyK_done (by kernel_rfl) ?_ _
      have P2 := Lib.hid (show blk (w6.setRow g (mxA n (setM M k (joinF (M k) v)))) g = some (.cells (mxA n (setM M k (joinF (M k) v))) 64) by rw [blk_setRow, if_pos rfl, p2])
      have P0 := Lib.hid (grown_trans p0 (setRow_grown w6 g (mxA n (setM M k (joinF (M k) v)))))
      clear p0 p1 p2 hHeld hne
      go_wp2
      go_ret
      exact ⟨by rw [hE.out]; rfl, by rw [hM.out]; exact P2.out, P0.out⟩
    · rw [Bool.not_eq_true] at hr
      rw [hr]
      rw [hh, hr] at hS
      rw [show seeB n r v = false from hS.out, if_neg (by decide)] at hE hM
      go_wp2
      go_ret
      exact ⟨by rw [hE.out]; rfl, by rw [hM.out]; exact k2, k0.out⟩
  · rw [Bool.not_eq_true] at hh
    rw [hh]
    rw [hh] at hS
    rw [show seeB n r v = false from hS.out, if_neg (by decide)] at hE hM
    go_wp2
    go_ret
    exact ⟨by rw [hE.out]; rfl, by rw [hM.out]; exact k2, k0.out⟩

end Go.Proofs.Ythjeginhoddmiaa
