/- The contract of Row. No conditions but the number of replicas. -/
import Derived.Test.YthjeginhoddmiaaMxNew
namespace Go.Proofs.Ythjeginhoddmiaa
open Go.RowKit
attribute [local go_sem] bmax2_int bmin2_int bmax_two bmin_two blk_alloc blk_setRow blk_setCell blk_drew blk_drewN alloc_setRow cell_setRow_ne drew_setRow drewN_setRow fold_z0 vv_size vv_get vv_set
attribute [local go_sem ↓] exec_load_vv exec_store_vv exec_index_vv exec_eql_vv exec_neq_vv
attribute [local go_sem] loadVV_at storeVV_at indexVV_at eqVV_eql eqVV_neq ne_r2 ne_l2 ne_r3 ne_l3 ne_r4 ne_l4 ne_r5 ne_l5 ne_r6 ne_l6 ne_r7 ne_l7 ne_r8 ne_l8
set_option linter.unusedVariables false
set_option linter.unusedSimpArgs false
attribute [local go_sem] mxA_size rowM_mx putM_mx loadVV_mx storeVV_mx buildMX_int
attribute [local go_sem ↓] exec_build_mx exec_build_mx0

def rowF (n : Int) (M : Nat → Nat → Int) (r : Int) : Nat → Int := if hasI n r then M r.toNat else z0
theorem mrow_none (r : Int) (w : World) :
    Calls Try.prog 33 #[.pointer none, .int .i64 r] w fun e w' => e = .returned (.agg (vv z0)) ∧ Below w.heap.size w w' := by
  go_enter Try.func33, Try.ntmps33
  go_wp2_with fail
  have k1 := gblk_new w (Obj.cells (vv z0) 23)
  have k0 := (Below.refl w.heap.size w).alloc (Nat.le_refl _) (Obj.cells (vv z0) 23)
  generalize w.alloc (Obj.cells (vv z0) 23) = w1 at *
  generalize hg : w.heap.size = g at *
  refine Calls.mono (mhas_none _ _) ?_
  rintro e w2 ⟨rfl, hb'⟩
  replace k0 := k0.trans (hb'.mono (by have := k0.size; omega))
  replace k1 := gblk hb' k1
  clear hb'
  go_wp2
  refine bodyPost_ret (v := .agg (vv z0)) ?_ rfl ⟨rfl, ?_⟩
  · exact results_cell_row Try.results33 _ _ g _ _ _ _ rfl (setRow_heap _ _ _ _ _ _ k1) Try.underlying23 rfl infoVV
  · exact (k0.mono (Nat.le_of_eq hg)).trans ⟨rfl, rfl, rfl, by simp, fun j hj => setRow_other _ _ _ _ (by omega)⟩

theorem mrow_any (g : Nat) (n r : Int) (M : Nat → Nat → Int) (w : World) (hn : n ≤ 16) (h : MX w g n M) :
    Calls Try.prog 33 #[.pointer (some ⟨g, 0, none⟩), .int .i64 r] w fun e w' => e = .returned (.agg (vv (rowF n M r))) ∧ Below w.heap.size w w' := by
  go_enter Try.func33, Try.ntmps33
  go_wp2_with fail
  have k1 := gblk_new w (Obj.cells (vv z0) 23)
  have k0 := (Below.refl w.heap.size w).alloc (Nat.le_refl _) (Obj.cells (vv z0) 23)
  have k2 := gblk_alloc (Obj.cells (vv z0) 23) h
  clear h
  generalize w.alloc (Obj.cells (vv z0) 23) = w1 at *
  generalize hg : w.heap.size = g1 at *
  refine Calls.mono (mhas_any g n r M _ k2) ?_
  rintro e w2 ⟨rfl, hb'⟩
  replace k0 := k0.trans (hb'.mono (by have := k0.size; omega))
  replace k1 := gblk hb' k1
  replace k2 := gblk hb' k2
  clear hb'
  have E : Hid (rowF n M r = if hasI n r then M r.toNat else z0) := Lib.hid rfl
  by_cases hh : hasI n r = true
  · rw [if_pos hh] at E
    rw [hh]
    obtain ⟨q1, q2⟩ := of_decide_eq_true (show decide (0 ≤ r ∧ r < n) = true from hh)
    obtain ⟨k, rfl⟩ := Int.eq_ofNat_of_zero_le q1
    have hk : k < 16 := by omega
    have hne : g1 ≠ g := fun e => by
      subst e
      rw [k1] at k2
      have := congrArg (fun o : Option Obj => match o with | some (.cells cs _ _) => cs.size | _ => 0) k2
      simp [vv_size, mxA_size] at this
    clear hh q1 q2
    go_wp2
    refine bodyPost_ret (v := .agg (vv (M k))) ?_ rfl ⟨by rw [E.out]; rfl, ?_⟩
    · exact results_cell_row Try.results33 _ _ g1 _ _ _ _ rfl (setRow_heap _ _ _ _ _ _ k1) Try.underlying23 rfl infoVV
    · exact (k0.mono (Nat.le_of_eq hg)).trans ⟨rfl, rfl, rfl, by simp, fun j hj => setRow_other _ _ _ _ (by omega)⟩
  · rw [if_neg hh] at E
    rw [Bool.not_eq_true] at hh
    rw [hh]
    go_wp2
    refine bodyPost_ret (v := .agg (vv z0)) ?_ rfl ⟨by rw [E.out], ?_⟩
    · exact results_cell_row Try.results33 _ _ g1 _ _ _ _ rfl (setRow_heap _ _ _ _ _ _ k1) Try.underlying23 rfl infoVV
    · exact (k0.mono (Nat.le_of_eq hg)).trans ⟨rfl, rfl, rfl, by simp, fun j hj => setRow_other _ _ _ _ (by omega)⟩

end Go.Proofs.Ythjeginhoddmiaa
