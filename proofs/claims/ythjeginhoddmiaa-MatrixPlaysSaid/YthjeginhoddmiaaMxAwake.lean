/- The contract of the package's own opening question. No conditions. -/
import Derived.Test.YthjeginhoddmiaaMxSee
import Derived.Test.YthjeginhoddmiaaMxCut
namespace Go.Proofs.Ythjeginhoddmiaa
open Go.RowKit
attribute [local go_sem] bmax2_int bmin2_int bmax_two bmin_two blk_alloc blk_setRow blk_setCell blk_drew blk_drewN alloc_setRow cell_setRow_ne drew_setRow drewN_setRow fold_z0 vv_size vv_get vv_set
attribute [local go_sem ↓] exec_load_vv exec_store_vv exec_index_vv exec_eql_vv exec_neq_vv
attribute [local go_sem] loadVV_at storeVV_at indexVV_at eqVV_eql eqVV_neq ne_r2 ne_l2 ne_r3 ne_l3 ne_r4 ne_l4 ne_r5 ne_l5 ne_r6 ne_l6 ne_r7 ne_l7 ne_r8 ne_l8
set_option linter.unusedVariables false
set_option linter.unusedSimpArgs false
attribute [local go_sem] mxA_size rowM_mx putM_mx loadVV_mx storeVV_mx buildMX_int
attribute [local go_sem ↓] exec_build_mx exec_build_mx0

theorem awake19_see : seeE 1 0 (up z0 0 3) = 0 := by decide
theorem awake19_stab : same16 (stabF 1 (seeM 1 (fun _ => z0) 0 (up z0 0 3))) (up z0 0 3) = true := by decide
theorem awake19_row : same16 (rowF 1 (seeM 1 (fun _ => z0) 0 (up z0 0 3)) 0) (up z0 0 3) = true := by decide

set_option maxHeartbeats 400000 in
theorem awake19_any (w : World) :
    Calls Try.prog 30 #[] w fun e w' => e = .returned (.bool true) ∧ Below w.heap.size w w' := by
  go_enter Try.func30, Try.ntmps30
  go_wp2_with fail
  refine Calls.mono (mnew_any 1 w) ?_
  rintro e w1 ⟨rfl, hb', hm⟩
  rw [show dimI 1 = 1 from rfl] at hm
  have k0 := Lib.hid hb'
  have k1 := Lib.hid hm
  clear hb' hm
  generalize hg : w.heap.size = g at *
  go_wp2_with fail
  refine Calls.mono (msee_any g 1 0 (up z0 0 3) _ w1 (by decide) k1.out) ?_
  rintro e w2 ⟨rfl, hm, hb'⟩
  rw [awake19_see]
  replace k0 := Lib.hid (grown_new hb' k0.out.size (Nat.le_of_eq hg) (k0.out.mono (Nat.le_of_eq hg)))
  replace k1 := Lib.hid hm
  clear hb' hm
  have hs := awake19_stab
  have hr := awake19_row
  generalize seeM 1 (fun _ => z0) 0 (up z0 0 3) = M at *
  go_wp2_with fail
  refine Calls.mono (mstable_any g 1 M w2 (by decide) k1.out) ?_
  rintro e w3 ⟨rfl, hb'⟩
  replace k1 : Hid (MX w3 g 1 M) := Lib.hid (gblk hb' k1.out)
  replace k0 := Lib.hid (gbelow hb' k0.out)
  clear hb'
  go_wp2_with fail
  refine Calls.mono (mrow_any g 1 0 M w3 (by decide) k1.out) ?_
  rintro e w4 ⟨rfl, hb'⟩
  replace k0 := Lib.hid (gbelow hb' k0.out)
  clear hb'
  go_wp2
  go_ret
  exact ⟨rfl, k0.out⟩

end Go.Proofs.Ythjeginhoddmiaa
