/- The contract of Compare. No conditions. -/
import Derived.Test.YthjeginhoddmiaaVecJoin
namespace Go.Proofs.Ythjeginhoddmiaa
open Go.RowKit
attribute [local go_sem] bmax2_int bmin2_int bmax_two bmin_two blk_alloc blk_setRow blk_setCell blk_drew blk_drewN alloc_setRow cell_setRow_ne drew_setRow drewN_setRow fold_z0 vv_size vv_get vv_set
attribute [local go_sem ↓] exec_load_vv exec_store_vv exec_index_vv exec_eql_vv exec_neq_vv
attribute [local go_sem] loadVV_at storeVV_at indexVV_at eqVV_eql eqVV_neq ne_r2 ne_l2 ne_r3 ne_l3 ne_r4 ne_l4 ne_r5 ne_l5 ne_r6 ne_l6 ne_r7 ne_l7 ne_r8 ne_l8
set_option linter.unusedVariables false
set_option linter.unusedSimpArgs false

theorem same16_not {a b : Nat → Int} (h : ¬ ∀ i, i < 16 → a i = b i) : same16 a b = false := by
  cases e : same16 a b with
  | false => rfl
  | true => exact absurd (same16_iff.1 e) h
theorem join_same_l (a b : Nat → Int) : same16 (joinF a b) a = mostB b a := by
  cases h : mostB b a with
  | true =>
    have := mostB_iff.1 h
    refine same16_of fun i hi => ?_
    have := this i hi
    unfold joinF mx; split <;> omega
  | false =>
    refine same16_not fun hs => ?_
    have : mostB b a = true := mostB_iff.2 fun i hi => by have := hs i hi; unfold joinF mx at this; split at this <;> omega
    rw [h] at this; cases this
theorem join_same_r (a b : Nat → Int) : same16 (joinF a b) b = mostB a b := by
  cases h : mostB a b with
  | true =>
    have := mostB_iff.1 h
    refine same16_of fun i hi => ?_
    have := this i hi
    unfold joinF mx; split <;> omega
  | false =>
    refine same16_not fun hs => ?_
    have : mostB a b = true := mostB_iff.2 fun i hi => by have := hs i hi; unfold joinF mx at this; split at this <;> omega
    rw [h] at this; cases this
theorem same_most (a b : Nat → Int) : same16 a b = (mostB a b && mostB b a) := by
  cases h1 : mostB a b <;> cases h2 : mostB b a
  · exact same16_not fun hs => by have := mostB_iff.2 (fun i hi => Int.le_of_eq (hs i hi)); rw [h1] at this; cases this
  · exact same16_not fun hs => by have := mostB_iff.2 (fun i hi => Int.le_of_eq (hs i hi)); rw [h1] at this; cases this
  · exact same16_not fun hs => by have := mostB_iff.2 (fun i hi => Int.le_of_eq (hs i hi).symm); rw [h2] at this; cases this
  · exact same16_of fun i hi => by have := mostB_iff.1 h1 i hi; have := mostB_iff.1 h2 i hi; omega

set_option maxHeartbeats 1000000 in
theorem compare_any (a b : Nat → Int) (w : World) :
    Calls Try.prog 17 #[.agg (vv a), .agg (vv b)] w fun e w' => e = .returned (.int .i64 (cmpI a b)) ∧ Below w.heap.size w w' := by
  have e1 := join_same_l a b
  have e2 := join_same_r a b
  have e3 := same_most a b
  cases h1 : mostB a b <;> cases h2 : mostB b a
  all_goals
    rw [h2] at e1
    rw [h1] at e2
    rw [h1, h2] at e3
    simp only [Bool.and_true, Bool.and_false] at e3
    have E1 := Lib.hid h1
    have E2 := Lib.hid h2
    clear h1 h2
    go_enter Try.func17, Try.ntmps17
    go_wp2_with fail
    generalize hw1 : (w.alloc (Obj.cells (vv a) 23)).alloc (Obj.cells (vv b) 23) = w1
    have k0 : Below w.heap.size w w1 := by rw [← hw1]; go_grown
    have k1 : blk w1 w.heap.size = some (.cells (vv a) 23) := by rw [← hw1]; simp [blk_alloc]
    have k2 : blk w1 (w.heap.size + 1) = some (.cells (vv b) 23) := by rw [← hw1]; simp [blk_alloc]
    clear hw1
    refine Calls.mono (join_any _ _ _) ?_
    rintro e w2 ⟨rfl, hb'⟩
    have K0 := Lib.hid (gbelow hb' k0)
    replace k1 := gblk hb' k1
    replace k2 := gblk hb' k2
    clear hb' k0
    go_wp2
    go_ret
    exact ⟨by unfold cmpI; rw [E1.out, E2.out]; rfl, K0.out⟩

end Go.Proofs.Ythjeginhoddmiaa
