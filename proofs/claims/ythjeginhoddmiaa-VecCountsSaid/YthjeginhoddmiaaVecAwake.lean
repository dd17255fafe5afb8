/- The contract of the package's own opening question. No conditions. -/
import Derived.Test.YthjeginhoddmiaaVecJoin
import Derived.Test.YthjeginhoddmiaaVecRight
namespace Go.Proofs.Ythjeginhoddmiaa
open Go.RowKit
attribute [local go_sem] bmax2_int bmin2_int bmax_two bmin_two blk_alloc blk_setRow blk_setCell blk_drew blk_drewN alloc_setRow cell_setRow_ne drew_setRow drewN_setRow fold_z0 vv_size vv_get vv_set
attribute [local go_sem ↓] exec_load_vv exec_store_vv exec_index_vv exec_eql_vv exec_neq_vv
attribute [local go_sem] loadVV_at storeVV_at indexVV_at eqVV_eql eqVV_neq ne_r2 ne_l2 ne_r3 ne_l3 ne_r4 ne_l4 ne_r5 ne_l5 ne_r6 ne_l6 ne_r7 ne_l7 ne_r8 ne_l8
set_option linter.unusedVariables false
set_option linter.unusedSimpArgs false

theorem same_22 : same16 (joinF (up (up z0 0 1) 1 2) (up (up z0 0 2) 1 1)) (up (up z0 0 2) 1 2) = true := by decide
theorem right_z : rightB z0 = true := by decide
attribute [local go_sem] same_22 right_z

set_option maxHeartbeats 400000 in
theorem awake03_any (w : World) :
    Calls Try.prog 13 #[] w fun e w' => e = .returned (.bool true) ∧ Below w.heap.size w w' := by
  go_enter Try.func13, Try.ntmps13
  go_wp2_with (first | (go_at_call 14; refine (join_any _ _ _).mono ?_; rintro e w1 ⟨rfl, hb1⟩) | (go_at_call 22; refine (right_any _ _).mono ?_; rintro e w2 ⟨rfl, hb2⟩))
  go_ret
  exact ⟨by simp [right_z], gbelow hb2 hb1⟩

end Go.Proofs.Ythjeginhoddmiaa
