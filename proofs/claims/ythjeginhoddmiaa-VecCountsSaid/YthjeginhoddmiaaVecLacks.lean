/- The contract of Lacks. Its vectors' numbers fit 64 bits. -/
import Derived.Test.YthjeginhoddmiaaVecBase
namespace Go.Proofs.Ythjeginhoddmiaa
open Go.RowKit
attribute [local go_sem] bmax2_int bmin2_int bmax_two bmin_two blk_alloc blk_setRow blk_setCell blk_drew blk_drewN alloc_setRow cell_setRow_ne drew_setRow drewN_setRow fold_z0 vv_size vv_get vv_set
attribute [local go_sem ↓] exec_load_vv exec_store_vv exec_index_vv exec_eql_vv exec_neq_vv
attribute [local go_sem] loadVV_at storeVV_at indexVV_at eqVV_eql eqVV_neq ne_r2 ne_l2 ne_r3 ne_l3 ne_r4 ne_l4 ne_r5 ne_l5 ne_r6 ne_l6 ne_r7 ne_l7 ne_r8 ne_l8
set_option linter.unusedVariables false
set_option linter.unusedSimpArgs false

set_option maxHeartbeats 1000000 in
theorem lacks_any (a b : Nat → Int) (w : World) (ha : ∀ i, In64 (a i)) (hb : ∀ i, In64 (b i)) :
    Calls Try.prog 28 #[.agg (vv a), .agg (vv b)] w fun e w' => e = .returned (.int .i64 (lackTo a b 16)) ∧ Below w.heap.size w w' := by
  have HA := Lib.hid ha
  have HB := Lib.hid hb
  clear ha hb
  go_enter Try.func28, Try.ntmps28
  go_wp2
  go_loopw [5, 9] (fun n i wr => ∃ k : Nat, k ≤ 16 ∧ i = .int .i64 k ∧ n = .int .u64 (lackTo a b k) ∧ Below w.heap.size w wr ∧ VBox wr w.heap.size a) (fun _ i _ => 16 - (intOf i).toNat)
  case atStart =>
    refine ⟨0, by omega, rfl, rfl, by go_grown, ?_⟩
    unfold VBox; go_simp
  case round =>
    obtain ⟨k, hk, rfl, rfl, hb, h2⟩ := hrel
    have HW := Lib.hid hb
    clear hb
    have hbd := lackTo_bd a b k
    by_cases hlt : k < 16
    · have hc := h2.cell hlt
      have H2 := Lib.hid h2
      clear h2
      have hst := Lib.hid (lackTo_succ a b k)
      have ha := HA.out k
      have hb := HB.out k
      unfold In64 at ha hb
      generalize lackTo a b k = s at *
      by_cases hok : a k < b k
      · go_wp2
        go_roundw
        case rel =>
          refine ⟨k + 1, by omega, by go_num, ?_, HW.out, H2.out⟩
          rw [usub (HA.out k) (HB.out k) hok, uadd hbd (mn_bd (by omega)), hst.out, if_pos hok]
        case measure => simp [intOf]; omega
      · go_wp2
        go_roundw
        case rel =>
          exact ⟨k + 1, by omega, by go_num, by rw [hst.out, if_neg hok], HW.out, H2.out⟩
        case measure => simp [intOf]; omega
    · have e : k = 16 := by omega
      subst e
      clear h2
      go_wp2
      go_ret
      exact ⟨rfl, HW.out⟩

end Go.Proofs.Ythjeginhoddmiaa
