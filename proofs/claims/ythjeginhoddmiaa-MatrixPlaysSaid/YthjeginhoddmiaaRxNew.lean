/- The contract of the reference's New. No conditions. -/
import Derived.Test.YthjeginhoddmiaaRxBase
import Derived.Test.YthjeginhoddmiaaMxNew
namespace Go.Proofs.Ythjeginhoddmiaa
open Go.RowKit
attribute [local go_sem] bmax2_int bmin2_int bmax_two bmin_two blk_alloc blk_setRow blk_setCell blk_drew blk_drewN alloc_setRow cell_setRow_ne drew_setRow drewN_setRow fold_z0 vv_size vv_get vv_set
attribute [local go_sem ↓] exec_load_vv exec_store_vv exec_index_vv exec_eql_vv exec_neq_vv
attribute [local go_sem] storeVV_at indexVV_at eqVV_eql eqVV_neq ne_r2 ne_l2 ne_r3 ne_l3 ne_r4 ne_l4 ne_r5 ne_l5 ne_r6 ne_l6 ne_r7 ne_l7 ne_r8 ne_l8
set_option linter.unusedVariables false
set_option linter.unusedSimpArgs false
attribute [local go_sem] loadVV_rx loadVV_r0 storeVV_rx rowR_rx rowR_rx0 rowR_vv putR_rx rxA_size makeVVs_int
attribute [local go_sem ↓] exec_make_vvs

theorem rnew_any (n : Int) (w : World) :
    Calls Try.prog 35 #[.int .i64 n] w fun e w' => e = .returned (.pointer (some ⟨w.heap.size + 1, 0, none⟩)) ∧ Below w.heap.size w w' ∧ RX w' (w.heap.size + 1) w.heap.size (dimI n).toNat fun _ => z0 := by
  have hd := dimI_bd n
  unfold dimI at *
  go_enter Try.func35, Try.ntmps35
  go_wp2
  go_ret
  have k0 := (Below.refl w.heap.size w).alloc (Nat.le_refl _) (Obj.cells (rxA (mx 1 (mn n 16)).toNat fun _ => z0) 23)
  refine ⟨by simp, k0.alloc (by simp) _, ?_, gblk_alloc _ (gblk_new w _)⟩
  have := gblk_new (w.alloc (Obj.cells (rxA (mx 1 (mn n 16)).toNat fun _ => z0) 23)) (Obj.cells #[.slice (some ⟨w.heap.size, 0, none⟩) (mx 1 (mn n 16)).toNat (mx 1 (mn n 16)).toNat] 59)
  rw [show (w.alloc (Obj.cells (rxA (mx 1 (mn n 16)).toNat fun _ => z0) 23)).heap.size = w.heap.size + 1 by simp] at this
  exact this

end Go.Proofs.Ythjeginhoddmiaa
