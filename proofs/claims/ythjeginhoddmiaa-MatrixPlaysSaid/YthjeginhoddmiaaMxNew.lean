/- The contracts of New and has. No conditions. -/
import Derived.Test.YthjeginhoddmiaaMxBase
namespace Go.Proofs.Ythjeginhoddmiaa
open Go.RowKit
attribute [local go_sem] bmax2_int bmin2_int bmax_two bmin_two blk_alloc blk_setRow blk_setCell blk_drew blk_drewN alloc_setRow cell_setRow_ne drew_setRow drewN_setRow fold_z0 vv_size vv_get vv_set
attribute [local go_sem ↓] exec_load_vv exec_store_vv exec_index_vv exec_eql_vv exec_neq_vv
attribute [local go_sem] loadVV_at storeVV_at indexVV_at eqVV_eql eqVV_neq ne_r2 ne_l2 ne_r3 ne_l3 ne_r4 ne_l4 ne_r5 ne_l5 ne_r6 ne_l6 ne_r7 ne_l7 ne_r8 ne_l8
set_option linter.unusedVariables false
set_option linter.unusedSimpArgs false
attribute [local go_sem] mxA_size rowM_mx putM_mx loadVV_mx storeVV_mx buildMX_int
attribute [local go_sem ↓] exec_build_mx exec_build_mx0

def hasI (n r : Int) : Bool := decide (0 ≤ r ∧ r < n)
theorem mhas_none (r : Int) (w : World) :
    Calls Try.prog 45 #[.pointer none, .int .i64 r] w fun e w' => e = .returned (.bool false) ∧ Below w.heap.size w w' := by
  go_enter Try.func45, Try.ntmps45
  go_wp2
  go_ret
  exact ⟨rfl, Below.refl _ _⟩
theorem mhas_any (g : Nat) (n r : Int) (M : Nat → Nat → Int) (w : World) (h : MX w g n M) :
    Calls Try.prog 45 #[.pointer (some ⟨g, 0, none⟩), .int .i64 r] w fun e w' => e = .returned (.bool (hasI n r)) ∧ Below w.heap.size w w' := by
  have hc : w.cell? ⟨g, 0, none⟩ = some (.int .i64 n) := (cell_of_row w g 0 _ _ _ h).trans (mxA_get0 n M)
  clear h
  have E : Hid (hasI n r = decide (0 ≤ r ∧ r < n)) := Lib.hid rfl
  by_cases h0 : 0 ≤ r
  · by_cases h1 : r < n
    · go_enter Try.func45, Try.ntmps45
      go_wp2
      go_ret
      exact ⟨by rw [E.out]; simp [h0, h1], Below.refl _ _⟩
    · go_enter Try.func45, Try.ntmps45
      go_wp2
      go_ret
      exact ⟨by rw [E.out]; simp; omega, Below.refl _ _⟩
  · go_enter Try.func45, Try.ntmps45
    go_wp2
    go_ret
    exact ⟨by rw [E.out, decide_eq_false (by omega)]; rfl, Below.refl _ _⟩

/-- how many replicas a matrix has. -/
def dimI (n : Int) : Int := mx 1 (mn n 16)
theorem dimI_bd (n : Int) : 1 ≤ dimI n ∧ dimI n ≤ 16 := by unfold dimI mx mn; split <;> split <;> omega
theorem mnew_any (n : Int) (w : World) :
    Calls Try.prog 31 #[.int .i64 n] w fun e w' => e = .returned (.pointer (some ⟨w.heap.size, 0, none⟩)) ∧ Below w.heap.size w w' ∧ MX w' w.heap.size (dimI n) fun _ => z0 := by
  go_enter Try.func31, Try.ntmps31
  go_wp2
  go_ret
  exact ⟨rfl, (Below.refl _ _).alloc (Nat.le_refl _) _, gblk_new w _⟩

end Go.Proofs.Ythjeginhoddmiaa
