/- The contract of the reference's Join. No conditions. -/
import Derived.Test.YtpdckjfkkiameaaVecBase
import Derived.RegionTactic
namespace Go.Proofs.Ytpdckjfkkiameaa
open Go.RowKit
attribute [local go_sem] bmax2_int bmin2_int bmax_two bmin_two blk_alloc blk_setRow blk_setCell blk_drew blk_drewN alloc_setRow cell_setRow_ne drew_setRow drewN_setRow fold_z0 vv_size vv_get vv_set
attribute [local go_sem ↓] exec_load_vv exec_store_vv exec_index_vv exec_eql_vv exec_neq_vv
attribute [local go_sem] loadVV_at storeVV_at indexVV_at eqVV_eql eqVV_neq ne_r2 ne_l2 ne_r3 ne_l3 ne_r4 ne_l4 ne_r5 ne_l5 ne_r6 ne_l6 ne_r7 ne_l7 ne_r8 ne_l8
set_option linter.unusedVariables false
set_option linter.unusedSimpArgs false

set_option maxHeartbeats 400000 in
theorem rjoin_any (a b : Nat → Int) (w : World) :
    Calls Try.prog 23 #[.agg (vv a), .agg (vv b)] w fun e w' => e = .returned (.agg (vv (joinF a b))) ∧ Below w.heap.size w w' := by
  go_enter Try.func23, Try.ntmps23
  go_wp2
  go_loopw [5] (fun i wr => ∃ k : Nat, k ≤ 16 ∧ i = .int .i64 k ∧ Below w.heap.size w wr ∧ w.heap.size + 2 < wr.heap.size ∧ VBox wr w.heap.size (upto k (joinF a b) a) ∧ VBox wr (w.heap.size + 1) b ∧ VBox wr (w.heap.size + 1 + 1) z0) (fun i _ => 16 - (intOf i).toNat)
  case atStart =>
    refine ⟨0, by omega, rfl, by go_grown, by simp, ?_, ?_, ?_⟩
    · rw [upto_zero]; unfold VBox; go_simp
    · unfold VBox; go_simp
    · unfold VBox; go_simp
  case round =>
    obtain ⟨k, hk, rfl, hb, hs, h2, h3, h4⟩ := hrel
    by_cases hlt : k < 16
    · have hc := h2.cell hlt
      have hf := h2.frozen k
      rw [upto_here] at hc
      have H2 := Lib.hid h2
      have hc3 := h3.cell hlt
      have H3 := Lib.hid h3
      have H4 := Lib.hid h4
      have HB := Lib.hid hb
      clear h2 h3 h4 hb
      go_wp2_with fail
      go_region
      go_wp2
      go_roundw
      case rel =>
        refine ⟨k + 1, by omega, by go_num, (HB.out.setCell (by simp) _).drew, by simp; omega, ?_, (H3.out.far (by simp) _).drew, (H4.out.far (by simp; omega) _).drew⟩
        have := H2.out.set hlt (joinF a b k)
        rw [upto_succ] at this
        exact this
      case measure => simp [intOf]; omega
    · have e : k = 16 := by omega
      subst e
      have HB := Lib.hid hb
      clear hb h3
      unfold VBox at h2 h4
      rw [upto_full] at h2
      go_wp2
      refine bodyPost_ret (v := .agg (vv (joinF a b))) ?_ rfl ⟨rfl, ?_⟩
      · exact results_cell_row Try.results23 _ _ (w.heap.size + 1 + 1) _ _ _ _ rfl (setRow_heap _ _ _ _ _ _ h4) Try.underlying35 rfl infoVV
      · exact HB.out.trans ⟨rfl, rfl, rfl, by simp, fun j hj => setRow_other _ _ _ _ (by omega)⟩

end Go.Proofs.Ytpdckjfkkiameaa
