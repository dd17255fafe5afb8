/- The contract of the reference's Right. No conditions. -/
import Derived.Test.YtpdckjfkkiameaaVecBase
namespace Go.Proofs.Ytpdckjfkkiameaa
open Go.RowKit
attribute [local go_sem] bmax2_int bmin2_int bmax_two bmin_two blk_alloc blk_setRow blk_setCell blk_drew blk_drewN alloc_setRow cell_setRow_ne drew_setRow drewN_setRow fold_z0 vv_size vv_get vv_set
attribute [local go_sem ↓] exec_load_vv exec_store_vv exec_index_vv exec_eql_vv exec_neq_vv
attribute [local go_sem] loadVV_at storeVV_at indexVV_at eqVV_eql eqVV_neq ne_r2 ne_l2 ne_r3 ne_l3 ne_r4 ne_l4 ne_r5 ne_l5 ne_r6 ne_l6 ne_r7 ne_l7 ne_r8 ne_l8
set_option linter.unusedVariables false
set_option linter.unusedSimpArgs false

set_option maxHeartbeats 400000 in
theorem rright_any (v : Nat → Int) (w : World) :
    Calls Try.prog 41 #[.agg (vv v)] w fun e w' => e = .returned (.bool (rightB v)) ∧ Below w.heap.size w w' := by
  go_enter Try.func41, Try.ntmps41
  go_wp2
  go_loopw [3] (fun i wr => ∃ k : Nat, k ≤ 16 ∧ i = .int .i64 k ∧ Below w.heap.size w wr ∧ VBox wr w.heap.size v ∧ ∀ j, j < k → 0 ≤ v j ∧ v j ≤ 1048576) (fun i _ => 16 - (intOf i).toNat)
  case atStart =>
    refine ⟨0, by omega, rfl, by go_grown, ?_, fun j hj => by omega⟩
    unfold VBox; go_simp
  case round =>
    obtain ⟨k, hk, rfl, hb, h2, hall⟩ := hrel
    have HA := Lib.hid hall
    clear hall
    have HB := Lib.hid hb
    clear hb
    by_cases hlt : k < 16
    · have hc := h2.cell hlt
      have H2 := Lib.hid h2
      clear h2
      by_cases hok : 0 ≤ v k ∧ v k ≤ 1048576
      · have HO := Lib.hid hok
        obtain ⟨ho1, ho2⟩ := hok
        have e1 : decide (v k < 0) = false := by simp; omega
        have e2 : decide (1048576 < v k) = false := by simp; omega
        go_wp2
        go_roundw
        case rel =>
          refine ⟨k + 1, by omega, by go_num, HB.out, H2.out, fun j hj => ?_⟩
          by_cases e : j = k
          · subst e; exact HO.out
          · exact HA.out j (by omega)
        case measure => simp [intOf]; omega
      · have e := rightB_not hlt hok
        have E := Lib.hid e
        clear e
        by_cases h0 : v k < 0
        · go_wp2
          go_ret
          exact ⟨by rw [E.out]; rfl, HB.out⟩
        · have h1 : 1048576 < v k := by omega
          clear hok
          go_wp2
          go_ret
          exact ⟨by rw [E.out]; rfl, HB.out⟩
    · have e : k = 16 := by omega
      subst e
      have e := rightB_iff.2 HA.out
      have E := Lib.hid e
      clear e h2
      go_wp2
      go_ret
      exact ⟨by rw [E.out]; rfl, HB.out⟩

end Go.Proofs.Ytpdckjfkkiameaa
