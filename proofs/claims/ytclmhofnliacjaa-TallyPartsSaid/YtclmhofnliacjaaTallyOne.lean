/- The contracts of one and One: what an event adds. No conditions. -/
import Derived.Test.YtclmhofnliacjaaEvBase
namespace Go.Proofs.Ytclmhofnliacjaa
open Go.RowKit
attribute [local go_sem] bmax2_int bmin2_int bmax_two bmin_two blk_alloc blk_setRow blk_setCell blk_drew blk_drewN alloc_setRow cell_setRow_ne drew_setRow drewN_setRow fold_z0 vv_size vv_get vv_set
attribute [local go_sem ↓] exec_load_vv exec_store_vv exec_index_vv exec_eql_vv exec_neq_vv
attribute [local go_sem] loadVV_at storeVV_at indexVV_at eqVV_eql eqVV_neq ne_r2 ne_l2 ne_r3 ne_l3 ne_r4 ne_l4 ne_r5 ne_l5 ne_r6 ne_l6 ne_r7 ne_l7 ne_r8 ne_l8
set_option linter.unusedVariables false
set_option linter.unusedSimpArgs false
attribute [local go_sem] rowN_drew fold_zE evA_size evA_get0 evA_get1 evA_get2 evA_get19 evA_get20 evA_get21 evA_get22 evA_get23 evA_get24 evA_get25 loadEv_at storeEv_at rowN_ev_new
attribute [local go_sem ↓] exec_load_ev exec_store_ev

def heldN (x : Int) : Int := mx (-1099511627776) (mn x 1099511627776)
/-- what an event adds. -/
def oneE (e : Ev) : Int := if e.kind = 2 then heldN e.num else 0
theorem heldN_bd (x : Int) : -1099511627776 ≤ heldN x ∧ heldN x ≤ 1099511627776 := by unfold heldN mx mn; (repeat' split) <;> omega
theorem oneE_bd (e : Ev) : -1099511627776 ≤ oneE e ∧ oneE e ≤ 1099511627776 := by
  unfold oneE; split
  · exact heldN_bd _
  · omega

set_option maxHeartbeats 400000 in
theorem one_any (e : Ev) (w : World) :
    Calls Try.prog 14 #[.agg (evA e)] w fun x w' => x = .returned (.int .i64 (oneE e)) ∧ Below w.heap.size w w' := by
  by_cases h : e.kind = 2
  · have E : Hid (oneE e = heldN e.num) := Lib.hid (by unfold oneE; rw [if_pos h])
    have hk : (e.kind != 2) = false := by simp [h]
    clear h
    go_enter Try.func14, Try.ntmps14
    go_wp2
    go_ret
    exact ⟨by rw [E.out]; rfl, by go_grown⟩
  · have E : Hid (oneE e = 0) := Lib.hid (by unfold oneE; rw [if_neg h])
    have hk : (e.kind != 2) = true := by simp [h]
    clear h
    go_enter Try.func14, Try.ntmps14
    go_wp2
    go_ret
    exact ⟨by rw [E.out]; rfl, by go_grown⟩

set_option maxHeartbeats 400000 in
theorem rone_any (e : Ev) (w : World) :
    Calls Try.prog 15 #[.agg (evA e)] w fun x w' => x = .returned (.int .i64 (oneE e)) ∧ Below w.heap.size w w' := by
  by_cases h : e.kind = 2
  · have E : Hid (oneE e = heldN e.num) := Lib.hid (by unfold oneE; rw [if_pos h])
    have hk : (e.kind != 2) = false := by simp [h]
    clear h
    go_enter Try.func15, Try.ntmps15
    go_wp2
    go_ret
    exact ⟨by rw [E.out]; rfl, by go_grown⟩
  · have E : Hid (oneE e = 0) := Lib.hid (by unfold oneE; rw [if_neg h])
    have hk : (e.kind != 2) = true := by simp [h]
    clear h
    go_enter Try.func15, Try.ntmps15
    go_wp2
    go_ret
    exact ⟨by rw [E.out]; rfl, by go_grown⟩


end Go.Proofs.Ytclmhofnliacjaa
