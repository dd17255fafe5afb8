/- The contract of the package's own opening question. No conditions. -/
import Derived.Test.YtclmhofnliacjaaTallySum
namespace Go.Proofs.Ytclmhofnliacjaa
open Go.RowKit
attribute [local go_sem] bmax2_int bmin2_int bmax_two bmin_two blk_alloc blk_setRow blk_setCell blk_drew blk_drewN alloc_setRow cell_setRow_ne drew_setRow drewN_setRow fold_z0 vv_size vv_get vv_set
attribute [local go_sem ↓] exec_load_vv exec_store_vv exec_index_vv exec_eql_vv exec_neq_vv
attribute [local go_sem] loadVV_at storeVV_at indexVV_at eqVV_eql eqVV_neq ne_r2 ne_l2 ne_r3 ne_l3 ne_r4 ne_l4 ne_r5 ne_l5 ne_r6 ne_l6 ne_r7 ne_l7 ne_r8 ne_l8
set_option linter.unusedVariables false
set_option linter.unusedSimpArgs false

/-- the cells of events, one behind the other. -/
def evs (L : List Ev) : List Value := L.flatMap fun e => (evA e).toList
theorem evs_length (L : List Ev) : (evs L).length = L.length * 26 := by
  induction L with
  | nil => rfl
  | cons e L ih =>
    have h : evs (e :: L) = (evA e).toList ++ evs L := by simp [evs]
    rw [h, List.length_append, ih, Array.length_toList, evA_size, List.length_cons]; omega
theorem evs_append (L M : List Ev) : evs (L ++ M) = evs L ++ evs M := by simp [evs]
theorem evs_get : ∀ (L : List Ev) (i j : Nat) (h : i < L.length), j < 26 → (evs L)[i * 26 + j]? = (evA L[i])[j]?
  | e :: L, i, j, h, hj => by
    have h1 : evs (e :: L) = (evA e).toList ++ evs L := by simp [evs]
    have hs : (evA e).toList.length = 26 := by simp [evA_size]
    rw [h1]
    cases i with
    | zero =>
      rw [Nat.zero_mul, Nat.zero_add, List.getElem?_append_left (by omega)]
      simp
    | succ i =>
      rw [List.getElem?_append_right (by omega), hs, show (i + 1) * 26 + j - 26 = i * 26 + j by omega, evs_get L i j (by simpa using h) hj]
      simp
theorem evsl_of_cells {w : World} {g cap : Nat} {L : List Ev} (hc : L.length ≤ cap) (hm : cap ≤ maxLen) (h : ∀ j, j < L.length * 26 → w.cell? ⟨g, j, none⟩ = (evs L)[j]?) : EvSl w (.slice (some ⟨g, 0, none⟩) L.length cap) L := by
  refine ⟨_, cap, rfl, hc, hm, .inr ⟨g, 0, rfl, fun i hi => ?_⟩⟩
  refine rowN_of (evA_size _) fun j hj => ?_
  have h1 : i * 26 + j < L.length * 26 := by
    have := Nat.mul_le_mul_right 26 (show i + 1 ≤ L.length from hi)
    omega
  rw [Nat.zero_add, h _ h1, evs_get L i j hi hj]
theorem evsl_blk {w : World} {g cap : Nat} {L : List Ev} {cs : Array Value} {t : TypeId} {fr : Nat × Nat} (hc : L.length ≤ cap) (hm : cap ≤ maxLen) (hb : blk w g = some (.cells cs t fr)) (h : ∀ j, j < L.length * 26 → cs[j]? = (evs L)[j]?) : EvSl w (.slice (some ⟨g, 0, none⟩) L.length cap) L :=
  evsl_of_cells hc hm fun j hj => by rw [cell_of_row w g j cs t fr hb, h j hj]

def evA1 : Ev := ⟨0, 0, 0, z0, 2, ByteArray.empty, ByteArray.empty, ByteArray.empty, 5, 0, 0⟩
def evA2 : Ev := ⟨0, 0, 0, z0, 2, ByteArray.empty, ByteArray.empty, ByteArray.empty, -2, 0, 0⟩

set_option maxRecDepth 100000 in
set_option maxHeartbeats 1000000 in
theorem awake12_any (w : World) :
    Calls Try.prog 7 #[] w fun e w' => e = .returned (.bool true) ∧ Below w.heap.size w w' := by
  go_enter Try.func7, Try.ntmps7
  go_wp2_with fail
  generalize hw : w.alloc _ = w2
  have hb : Below w.heap.size w w2 := by rw [← hw]; exact (Below.refl _ _).alloc (Nat.le_refl _) _
  have hs : EvSl w2 (.slice (some ⟨w.heap.size, 0, none⟩) 2 2) [evA1, evA2] := by
    rw [← hw]
    exact evsl_blk (L := [evA1, evA2]) (by decide) (by decide) (gblk_new w _) fun j hj => by
      rw [← Array.getElem?_toList]; rfl
  have hg : w.heap.size ≤ w2.heap.size := hb.size
  have HS := Lib.hid hs
  have HB := Lib.hid hb
  clear hs hb hw
  refine Calls.mono (sum_any _ [evA1, evA2] _ HS.out (by decide)) ?_
  rintro e w3 ⟨rfl, hb'⟩
  have E : sumE [evA1, evA2] = 3 := by decide
  rw [E]
  have HB3 := Lib.hid hb'
  clear hb'
  go_wp2
  go_ret
  exact ⟨rfl, gbelow HB3.out HB.out⟩

end Go.Proofs.Ytclmhofnliacjaa
