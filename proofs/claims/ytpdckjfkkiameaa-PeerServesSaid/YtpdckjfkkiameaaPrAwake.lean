/- The contract of the package's own opening question. No conditions. -/
import Derived.Test.YtpdckjfkkiameaaPrFor
namespace Go.Proofs.Ytpdckjfkkiameaa
open Go.RowKit
attribute [local go_sem] bmax2_int bmin2_int bmax_two bmin_two blk_alloc blk_setRow blk_setCell blk_drew blk_drewN alloc_setRow cell_setRow_ne drew_setRow drewN_setRow fold_z0 vv_size vv_get vv_set
attribute [local go_sem ↓] exec_load_vv exec_store_vv exec_index_vv exec_eql_vv exec_neq_vv
attribute [local go_sem] loadVV_at storeVV_at indexVV_at eqVV_eql eqVV_neq ne_r2 ne_l2 ne_r3 ne_l3 ne_r4 ne_l4 ne_r5 ne_l5 ne_r6 ne_l6 ne_r7 ne_l7 ne_r8 ne_l8
set_option linter.unusedVariables false
set_option linter.unusedSimpArgs false
attribute [local go_sem] rowN_drew fold_zE evA_size evA_get0 evA_get1 evA_get2 evA_get19 evA_get20 evA_get21 evA_get22 evA_get23 evA_get24 evA_get25 loadEv_at storeEv_at rowN_ev_new
attribute [local go_sem ↓] exec_load_ev exec_store_ev

def evK : Ev := ⟨0, 1, 0, z0, 0, ByteArray.empty, ByteArray.empty, ByteArray.empty, 0, 0, 0⟩
theorem fold_evK : #[Value.int .i64 0, .int .i64 1, .int .i64 0, .int .i64 0, .int .i64 0, .int .i64 0, .int .i64 0, .int .i64 0, .int .i64 0, .int .i64 0, .int .i64 0, .int .i64 0, .int .i64 0, .int .i64 0, .int .i64 0, .int .i64 0, .int .i64 0, .int .i64 0, .int .i64 0, .int .i64 0, .string ByteArray.empty, .string ByteArray.empty, .string ByteArray.empty, .int .i64 0, .int .i64 0, .int .i64 0] = evA evK := rfl
def vK : Nat → Int := fun i => if i = 0 then 1 else 0
theorem fold_vK : #[Value.int .i64 1, .int .i64 0, .int .i64 0, .int .i64 0, .int .i64 0, .int .i64 0, .int .i64 0, .int .i64 0, .int .i64 0, .int .i64 0, .int .i64 0, .int .i64 0, .int .i64 0, .int .i64 0, .int .i64 0, .int .i64 0] = vv vK := rfl
theorem vv_nil (a : Nat → Int) : (vv a = #[]) = False := eq_false (fun h => by have := congrArg Array.size h; simp [vv_size] at this)
attribute [local go_sem] fold_evK fold_vK vv_nil

set_option maxRecDepth 100000 in
set_option maxHeartbeats 1000000 in
theorem awake20_any (w : World) :
    Calls Try.prog 10 #[] w fun e w' => e = .returned (.bool true) ∧ Below w.heap.size w w' := by
  go_enter Try.func10, Try.ntmps10
  go_wp2_with fail
  refine Calls.mono (pnew_any w) ?_
  rintro e w2 ⟨rfl, rfl⟩
  have k0 := Lib.hid ((Below.refl w.heap.size w).alloc (Nat.le_refl _) (Obj.cells #[.slice none 0 0] 31))
  have k1 := log_new w w.heap.size (Nat.le_refl _)
  generalize w.alloc (Obj.cells #[.slice none 0 0] 31) = w2 at *
  go_wp2_with fail
  refine Calls.mono (padd_any w.heap.size w.heap.size _ [] evK w2 k1 (by simp)) ?_
  rintro e w3 ⟨rfl, hF, v', k3, _⟩
  have hge := LogX.ge k1
  replace k0 := Lib.hid (hF.below hge (Nat.le_of_lt k1.lt) k0.out)
  clear hF k1 hge
  go_wp2_with fail
  refine Calls.mono (plen_any w.heap.size w.heap.size v' _ w3 k3) ?_
  rintro e w4 ⟨rfl, rfl⟩
  have hlt := k3.lt
  go_wp2_with fail
  refine Calls.mono (for_any w.heap.size w.heap.size v' _ z0 vK 1 _ k3 (by simp)) ?_
  rintro e w5 ⟨x, rfl, hb', ho⟩
  have E : forE z0 vK 1 ([] ++ [evK]) = [evK] := by first | rfl | (unfold forE wantB; simp; decide)
  rw [E] at ho
  obtain ⟨ax, cx, rfl⟩ := ho.form
  replace k0 := Lib.hid (k0.out.trans (hb'.mono (Nat.le_of_lt hlt)))
  clear hb' ho k3
  go_wp2
  go_ret
  exact ⟨by simp, k0.out⟩

end Go.Proofs.Ytpdckjfkkiameaa
