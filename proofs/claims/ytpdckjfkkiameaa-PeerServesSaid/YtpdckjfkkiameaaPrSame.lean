/- Two events held against each other; the contract of Same. No conditions. -/
import Derived.Test.YtpdckjfkkiameaaPrBase
import Derived.Laws.StructEq
namespace Go.Proofs.Ytpdckjfkkiameaa
open Go.RowKit
attribute [local go_sem] bmax2_int bmin2_int bmax_two bmin_two blk_alloc blk_setRow blk_setCell blk_drew blk_drewN alloc_setRow cell_setRow_ne drew_setRow drewN_setRow fold_z0 vv_size vv_get vv_set
attribute [local go_sem ↓] exec_load_vv exec_store_vv exec_index_vv exec_eql_vv exec_neq_vv
attribute [local go_sem] loadVV_at storeVV_at indexVV_at eqVV_eql eqVV_neq ne_r2 ne_l2 ne_r3 ne_l3 ne_r4 ne_l4 ne_r5 ne_l5 ne_r6 ne_l6 ne_r7 ne_l7 ne_r8 ne_l8
set_option linter.unusedVariables false
set_option linter.unusedSimpArgs false
attribute [local go_sem] rowN_drew fold_zE evA_size evA_get0 evA_get1 evA_get2 evA_get19 evA_get20 evA_get21 evA_get22 evA_get23 evA_get24 evA_get25 loadEv_at storeEv_at rowN_ev_new
attribute [local go_sem ↓] exec_load_ev exec_store_ev

/-- the events agree in all their cells. -/
def sameEv (a b : Ev) : Bool := decide (a.r = b.r ∧ a.n = b.n ∧ a.t = b.t ∧ same16 a.deps b.deps = true ∧ a.kind = b.kind ∧ a.key.toList = b.key.toList ∧ a.field.toList = b.field.toList ∧ a.value.toList = b.value.toList ∧ a.num = b.num ∧ a.rr = b.rr ∧ a.rn = b.rn)
theorem sameEv_refl (a : Ev) : sameEv a a = true := decide_eq_true ⟨rfl, rfl, rfl, same16_refl _, rfl, rfl, rfl, rfl, rfl, rfl, rfl⟩
theorem evA_e0 (a : Ev) (h : 0 < (evA a).size) : (evA a)[0] = .int .i64 a.r := rfl
theorem evA_e1 (a : Ev) (h : 1 < (evA a).size) : (evA a)[1] = .int .i64 a.n := rfl
theorem evA_e2 (a : Ev) (h : 2 < (evA a).size) : (evA a)[2] = .int .i64 a.t := rfl
theorem evA_e19 (a : Ev) (h : 19 < (evA a).size) : (evA a)[19] = .int .i64 a.kind := rfl
theorem evA_e20 (a : Ev) (h : 20 < (evA a).size) : (evA a)[20] = .string a.key := rfl
theorem evA_e21 (a : Ev) (h : 21 < (evA a).size) : (evA a)[21] = .string a.field := rfl
theorem evA_e22 (a : Ev) (h : 22 < (evA a).size) : (evA a)[22] = .string a.value := rfl
theorem evA_e23 (a : Ev) (h : 23 < (evA a).size) : (evA a)[23] = .int .i64 a.num := rfl
theorem evA_e24 (a : Ev) (h : 24 < (evA a).size) : (evA a)[24] = .int .i64 a.rr := rfl
theorem evA_e25 (a : Ev) (h : 25 < (evA a).size) : (evA a)[25] = .int .i64 a.rn := rfl
theorem evA_ex (a : Ev) : (evA a).extract 3 19 = vv a.deps := rfl
theorem run_eqEv (w : World) (a b : Ev) : (Op.equalIn 10000 39 (.agg (evA a)) (.agg (evA b))).run Try.prog w = .ok (sameEv a b) w := by
  have hv := run_eqIn_vv w 9997 a.deps b.deps
  go_simp
  simp only [evA_e0, evA_e1, evA_e2, evA_e19, evA_e20, evA_e21, evA_e22, evA_e23, evA_e24, evA_e25, evA_ex, hv]
  go_simp
  unfold sameEv
  by_cases h0 : a.r = b.r
  rotate_left
  · simp [h0]
  by_cases h1 : a.n = b.n
  rotate_left
  · simp [h0, h1]
  by_cases h2 : a.t = b.t
  rotate_left
  · simp [h0, h1, h2]
  by_cases h3 : same16 a.deps b.deps = true
  rotate_left
  · simp [h0, h1, h2, h3]
  by_cases h4 : a.kind = b.kind
  rotate_left
  · simp [h0, h1, h2, h3, h4]
  by_cases h5 : a.key.toList = b.key.toList
  rotate_left
  · simp [h0, h1, h2, h3, h4, h5]
  by_cases h6 : a.field.toList = b.field.toList
  rotate_left
  · simp [h0, h1, h2, h3, h4, h5, h6]
  by_cases h7 : a.value.toList = b.value.toList
  rotate_left
  · simp [h0, h1, h2, h3, h4, h5, h6, h7]
  by_cases h8 : a.num = b.num
  rotate_left
  · simp [h0, h1, h2, h3, h4, h5, h6, h7, h8]
  by_cases h9 : a.rr = b.rr
  rotate_left
  · simp [h0, h1, h2, h3, h4, h5, h6, h7, h8, h9]
  by_cases h10 : a.rn = b.rn <;> simp [h0, h1, h2, h3, h4, h5, h6, h7, h8, h9, h10]
/-- two whole events held against each other. -/
noncomputable def eqEV (op : BinOp) (u v : Operand) (x y : Value) (w : World) : Result Next := (do pure (Next.value (← (do eqGuard op 39 u v x y; binOp op 39 x y)))).run Try.prog w
theorem exec_eql_ev (ρ : Operand → Value) (dst : Option Tmp) (x y : Operand) (yt ty : TypeId) (pos : String) (after : Array Edge) (guard : Option (Nat × Bool)) (w : World) :
    (execOp ρ ⟨dst, .binOp .eql 39 x y yt, ty, pos, after, guard⟩).run Try.prog w = eqEV .eql x y (ρ x) (ρ y) w := rfl
theorem exec_neq_ev (ρ : Operand → Value) (dst : Option Tmp) (x y : Operand) (yt ty : TypeId) (pos : String) (after : Array Edge) (guard : Option (Nat × Bool)) (w : World) :
    (execOp ρ ⟨dst, .binOp .neq 39 x y yt, ty, pos, after, guard⟩).run Try.prog w = eqEV .neq x y (ρ x) (ρ y) w := rfl
theorem guard_ev (w : World) (op : BinOp) (x y : Operand) (a b : Array Value) : (eqGuard op 39 x y (.agg a) (.agg b)).run Try.prog w = .ok () w := by
  have h : Try.prog.eqGuardType Try.prog.depth 39 = false := by kernel_rfl
  cases op <;> simp [eqGuard, Sem.run_bind, h]
theorem eqEV_eql (u v : Operand) (w : World) (a b : Ev) : eqEV .eql u v (.agg (evA a)) (.agg (evA b)) w = .ok (.value (.bool (sameEv a b))) w := by
  simp only [eqEV, Sem.run_bind, guard_ev, run_eql_struct, run_eqEv, Result.andThen_ok, Sem.run_pure]
theorem eqEV_neq (u v : Operand) (w : World) (a b : Ev) : eqEV .neq u v (.agg (evA a)) (.agg (evA b)) w = .ok (.value (.bool (!sameEv a b))) w := by
  simp only [eqEV, Sem.run_bind, guard_ev, run_neq_struct, run_eqEv, Result.andThen_ok, Sem.run_pure]

end Go.Proofs.Ytpdckjfkkiameaa
