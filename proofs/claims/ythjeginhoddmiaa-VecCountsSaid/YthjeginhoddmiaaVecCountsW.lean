/- The walk of polyphonylaw03.VecCounts: it returns true, and what was there is as it was. No conditions. -/
import Derived.Test.YthjeginhoddmiaaVecAwake
import Derived.Test.YthjeginhoddmiaaVecHas
import Derived.Test.YthjeginhoddmiaaVecCompare
import Derived.Test.YthjeginhoddmiaaVecLacks
import Derived.Test.YthjeginhoddmiaaVecNext
import Derived.Test.YthjeginhoddmiaaVecWith
import Derived.Test.YthjeginhoddmiaaVecOpen
import Derived.RegionTactic
namespace Go.Proofs.Ythjeginhoddmiaa.vecCounts
open Go.RowKit
attribute [local go_sem] bmax2_int bmin2_int bmax_two bmin_two blk_alloc blk_setRow blk_setCell blk_drew blk_drewN alloc_setRow cell_setRow_ne drew_setRow drewN_setRow fold_z0 vv_size vv_get vv_set
attribute [local go_sem ↓] exec_load_vv exec_store_vv exec_index_vv exec_eql_vv exec_neq_vv
attribute [local go_sem] loadVV_at storeVV_at indexVV_at eqVV_eql eqVV_neq ne_r2 ne_l2 ne_r3 ne_l3 ne_r4 ne_l4 ne_r5 ne_l5 ne_r6 ne_l6 ne_r7 ne_l7 ne_r8 ne_l8
set_option linter.unusedVariables false
set_option linter.unusedSimpArgs false

theorem size_lt {w2 : World} {k : Nat} {o : Obj} (h : blk w2 k = some o) : k < w2.heap.size := by
  unfold blk at h
  exact (Array.getElem?_eq_some_iff.1 h).1
theorem up_same (v : Nat → Int) (R : Nat) (x : Int) : up v R x R = x := by simp [up]
theorem up_up (v : Nat → Int) (R : Nat) (x y : Int) : up (up v R x) R y = up v R y := by
  funext i; unfold up; split <;> rfl
theorem up_self (v : Nat → Int) (R : Nat) : up v R (v R) = v := by
  funext i; unfold up; split
  · rename_i h; rw [h]
  · rfl
theorem right_up {v : Nat → Int} {R : Nat} {x : Int} (h : rightB v = true) (h0 : 0 ≤ x) (h1 : x ≤ 1048576) : rightB (up v R x) = true := by
  refine rightB_iff.2 fun i hi => ?_
  unfold up; split
  · exact ⟨h0, h1⟩
  · exact rightB_iff.1 h i hi
theorem lack_up (v : Nat → Int) {R : Nat} {x y : Int} (h : x ≤ y) (hy : y - x ≤ 4611686018427387904) : ∀ k, lackTo (up v R x) (up v R y) k = if R < k then y - x else 0
  | 0 => by rw [if_neg (by omega)]; rfl
  | k + 1 => by
    rw [lackTo_succ, lack_up v h hy k]
    by_cases e : k = R
    · subst e
      rw [up_same, up_same, if_neg (Nat.lt_irrefl k), if_pos (Nat.lt_succ_self k)]
      by_cases hxy : x < y
      · rw [if_pos hxy]; unfold mn; (repeat' split) <;> omega
      · rw [if_neg hxy]; omega
    · have e1 : up v R x k = v k := by simp [up, e]
      have e2 : up v R y k = v k := by simp [up, e]
      rw [e1, e2, if_neg (Int.lt_irrefl _)]
      by_cases hk : R < k
      · rw [if_pos hk, if_pos (by omega)]
      · rw [if_neg hk, if_neg (by omega)]
theorem cmp_up (v : Nat → Int) {R : Nat} (hR : R < 16) {x y : Int} (h : x < y) : cmpI (up v R x) (up v R y) = 1 := by
  have h1 : mostB (up v R x) (up v R y) = true := mostB_iff.2 fun i _ => by unfold up; split <;> omega
  have h2 : mostB (up v R y) (up v R x) = false := mostB_not hR (by rw [up_same, up_same]; omega)
  unfold cmpI
  rw [h1, h2]; rfl
theorem has_up (v : Nat → Int) {r : Int} (hr0 : 0 ≤ r) (hr : r < 16) {x n : Int} (h1 : 1 ≤ n) (h2 : n ≤ 1048576) : hasB (up v r.toNat x) r n = decide (n ≤ x) := by
  unfold hasB dotB
  rw [up_same]
  have : decide (0 ≤ r ∧ r < 16 ∧ 1 ≤ n ∧ n ≤ 1048576) = true := decide_eq_true ⟨hr0, hr, h1, h2⟩
  rw [this, Bool.true_and]
theorem next_at (v : Nat → Int) (r x : Int) (w : World) (h : rightB v = true) (hr0 : 0 ≤ r) (hr : r < 16) (h0 : 0 ≤ x) (h1 : x < 1048576) :
    Calls Try.prog 18 #[.agg (vv (up v r.toNat x)), .int .i64 r] w fun e w' => e = .returned (.tuple #[.agg #[.int .i64 r, .int .i64 (x + 1)], .int .i64 0]) ∧ Below w.heap.size w w' := by
  have := next_ok (up v r.toNat x) r w (right_up h h0 (by omega)) hr0 hr (by rw [up_same]; omega)
  rw [up_same] at this
  exact this
theorem with_at (v : Nat → Int) (r x : Int) (w : World) (h : rightB v = true) (hr0 : 0 ≤ r) (hr : r < 16) (h0 : 0 ≤ x) (h1 : x < 1048576) :
    Calls Try.prog 20 #[.agg (vv (up v r.toNat x)), .agg #[.int .i64 r, .int .i64 (x + 1)]] w fun e w' => e = .returned (.tuple #[.agg (vv (up v r.toNat (x + 1))), .int .i64 0]) ∧ Below w.heap.size w w' := by
  have := with_ok (up v r.toNat x) r (x + 1) w (right_up h h0 (by omega)) (by unfold dotB; simp; omega) (by rw [up_same])
  rw [up_up] at this
  exact this
theorem lacks_at (v : Nat → Int) (r x y : Int) (w : World) (hv : ∀ i, In64 (v i)) (hr0 : 0 ≤ r) (hr : r < 16) (h0 : 0 ≤ x) (h1 : x ≤ y) (h2 : y ≤ 1048576) :
    Calls Try.prog 28 #[.agg (vv (up v r.toNat x)), .agg (vv (up v r.toNat y))] w fun e w' => e = .returned (.int .i64 (y - x)) ∧ Below w.heap.size w w' := by
  have hu : ∀ z, 0 ≤ z → z ≤ 1048576 → ∀ i, In64 (up v r.toNat z i) := fun z hz0 hz1 i => by
    unfold up; split
    · unfold In64; omega
    · exact hv i
  have := lacks_any (up v r.toNat x) (up v r.toNat y) w (hu x h0 (by omega)) (hu y (by omega) h2)
  rw [lack_up v h1 (by omega) 16, if_pos (by omega)] at this
  exact this

set_option maxRecDepth 100000 in
set_option maxHeartbeats 4000000 in
theorem walk_yes (v : Nat → Int) (r m : Int) (w : World) (hv : ∀ i, In64 (v i)) (hR : rightB v = true) (hr0 : 0 ≤ r) (hr : r < 16) (hm0 : 0 ≤ m) (hm : m ≤ 255) :
    Calls Try.prog 12 #[.agg (vv v), .int .i64 r, .int .u8 m] w fun e w' => e = .returned (.bool true) ∧ Below w.heap.size w w' := by
  have HV := Lib.hid hv
  clear hv
  have hb := rightB_iff.1 hR r.toNat (by omega)
  have HR := Lib.hid hR
  clear hR
  go_enter Try.func12, Try.ntmps12
  go_wp2_with fail
  have k0 := (Below.refl w.heap.size w).alloc (Nat.le_refl _) (Obj.cells (vv v) 23)
  have k1 := gblk_new w (Obj.cells (vv v) 23)
  generalize w.alloc (Obj.cells (vv v) 23) = w1 at *
  refine Calls.mono (awake03_any _) ?_
  rintro e w2 ⟨rfl, hb'⟩
  replace k0 := gbelow hb' k0
  replace k1 := gblk hb' k1
  clear hb'
  go_wp2_with fail
  refine Calls.mono (right_any _ _) ?_
  rintro e w3 ⟨rfl, hb'⟩
  rw [HR.out]
  replace k0 := gbelow hb' k0
  replace k1 := gblk hb' k1
  clear hb'
  have q1 := Nat.ne_of_lt (size_lt k1)
  have hc := VBox.cell (show VBox (w3.alloc (Obj.cells (vv v) 23)) _ v from gblk_new w3 _) (i := r.toNat) (by omega)
  go_wp2_with fail
  obtain ⟨y, hy, hy0, hy1, hy2⟩ : ∃ y, mn (v r.toNat + m) 1048576 = y ∧ v r.toNat ≤ y ∧ y ≤ 1048576 ∧ y - v r.toNat ≤ 255 := ⟨_, rfl, by unfold mn; split <;> omega, by unfold mn; split <;> omega, by unfold mn; split <;> omega⟩
  rw [hy]
  clear hy hc q1
  have k7 := gblk_new w3 (Obj.cells (vv (up v r.toNat y)) 23)
  have hsz : w.heap.size ≤ w3.heap.size := k0.size
  replace k0 := k0.alloc hsz (Obj.cells (vv (up v r.toNat y)) 23)
  replace k1 := gblk_alloc (Obj.cells (vv (up v r.toNat y)) 23) k1
  generalize w3.alloc (Obj.cells (vv (up v r.toNat y)) 23) = w4 at *
  generalize hg7 : w3.heap.size = g7 at *
  clear hg7
  have c1 : w4.cell? ⟨w.heap.size, r.toNat, none⟩ = some (.int .i64 (v r.toNat)) := VBox.cell (show VBox w4 _ v from k1) (by omega)
  have c7 : w4.cell? ⟨g7, r.toNat, none⟩ = some (.int .i64 y) := by
    have := VBox.cell (show VBox w4 g7 (up v r.toNat y) from k7) (i := r.toNat) (by omega)
    rw [up_same] at this
    exact this
  go_region
  clear c1 c7
  have q1 := Nat.ne_of_lt (size_lt k1)
  have q7 := Nat.ne_of_lt (size_lt k7)
  have hsz4 := k0.size
  go_wp2_with fail
  go_loopw [10] (fun i wr => ∃ j : Nat, (j : Int) ≤ y - v r.toNat ∧ i = .int .i64 (y - v r.toNat - j) ∧ Below w.heap.size w wr ∧ blk wr g7 = some (.cells (vv (up v r.toNat y)) 23) ∧ blk wr w4.heap.size = some (.cells (vv (up v r.toNat (v r.toNat + j))) 23)) (fun i _ => (intOf i).toNat)
  case atStart =>
    refine ⟨0, by omega, by go_num, (k0.alloc hsz4 _).drew, ?_, ?_⟩
    · exact gblk_alloc _ k7
    · have := gblk_new w4 (Obj.cells (vv v) 23)
      have e : up v r.toNat (v r.toNat + ((0 : Nat) : Int)) = v := by rw [Int.ofNat_zero, Int.add_zero]; exact up_self v _
      rw [e]
      exact this
  case round =>
    clear k0 k1 k7 q1
    generalize w4.heap.size = g9 at *
    have N79 := Lib.hid q7
    have H9 := Lib.hid hsz4
    clear q7 hsz4
    obtain ⟨j, hj, rfl, k0, k7, k9⟩ := hrel
    have K0 := Lib.hid k0
    clear k0
    by_cases hlt : (j : Int) < y - v r.toNat
    · obtain ⟨x, hx, hx0, hx1⟩ : ∃ x, v r.toNat + (j : Int) = x ∧ v r.toNat ≤ x ∧ x < y := ⟨_, rfl, by omega, by omega⟩
      have hn : y - v r.toNat - (j : Int) = y - x := by omega
      have HN := Lib.hid hn
      have HX := Lib.hid hx
      rw [hx] at k9
      rw [hn]
      clear hn hx
      have hpos : 0 < y - x := by omega
      go_wp2_with fail
      refine Calls.mono (lacks_at v r x y _ HV.out hr0 hr (by omega) (by omega) hy1) ?_
      rintro e w5 ⟨rfl, hb'⟩
      replace K0 := Lib.hid (gbelow hb' K0.out)
      replace k7 := gblk hb' k7
      replace k9 := gblk hb' k9
      clear hb'
      go_wp2_with fail
      refine Calls.mono (next_at v r x _ HR.out hr0 hr (by omega) (by omega)) ?_
      rintro e w6 ⟨rfl, hb'⟩
      replace K0 := Lib.hid (gbelow hb' K0.out)
      replace k7 := gblk hb' k7
      replace k9 := gblk hb' k9
      clear hb'
      have q7 := Nat.ne_of_lt (size_lt k7)
      have q9 := Nat.ne_of_lt (size_lt k9)
      go_wp2_with fail
      clear q7 q9
      have k11 := gblk_new w6 (Obj.cells #[Value.int IntKind.i64 r, Value.int IntKind.i64 (x + 1)] 28)
      replace K0 := Lib.hid (K0.out.alloc K0.out.size (Obj.cells #[Value.int IntKind.i64 r, Value.int IntKind.i64 (x + 1)] 28))
      replace k7 := gblk_alloc (Obj.cells #[Value.int IntKind.i64 r, Value.int IntKind.i64 (x + 1)] 28) k7
      replace k9 := gblk_alloc (Obj.cells #[Value.int IntKind.i64 r, Value.int IntKind.i64 (x + 1)] 28) k9
      generalize w6.alloc (Obj.cells #[Value.int IntKind.i64 r, Value.int IntKind.i64 (x + 1)] 28) = w7 at *
      generalize hg : w6.heap.size = g11 at *
      clear hg
      refine Calls.mono (with_at v r x _ HR.out hr0 hr (by omega) (by omega)) ?_
      rintro e w8 ⟨rfl, hb'⟩
      replace K0 := Lib.hid (gbelow hb' K0.out)
      replace k7 := gblk hb' k7
      replace k9 := gblk hb' k9
      replace k11 := gblk hb' k11
      clear hb'
      have q7 := Nat.ne_of_lt (size_lt k7)
      have q9 := Nat.ne_of_lt (size_lt k9)
      have q11 := Nat.ne_of_lt (size_lt k11)
      have c110 : w8.cell? ⟨g11, 0, none⟩ = some (.int .i64 r) := cell_of_row w8 _ 0 _ _ _ k11
      have c111 : w8.cell? ⟨g11, 1, none⟩ = some (.int .i64 (x + 1)) := cell_of_row w8 _ 1 _ _ _ k11
      have lt11 := size_lt k11
      go_wp2_with fail
      clear c110 c111 lt11
      clear q7 q9 q11
      have k13 := gblk_new w8 (Obj.cells (vv (up v r.toNat (x + 1))) 23)
      replace K0 := Lib.hid (K0.out.alloc K0.out.size (Obj.cells (vv (up v r.toNat (x + 1))) 23))
      replace k7 := gblk_alloc (Obj.cells (vv (up v r.toNat (x + 1))) 23) k7
      replace k9 := gblk_alloc (Obj.cells (vv (up v r.toNat (x + 1))) 23) k9
      replace k11 := gblk_alloc (Obj.cells (vv (up v r.toNat (x + 1))) 23) k11
      generalize w8.alloc (Obj.cells (vv (up v r.toNat (x + 1))) 23) = w9 at *
      generalize hg : w8.heap.size = g13 at *
      clear hg
      have eH1 : hasB (up v r.toNat (x + 1)) r (x + 1) = true := by rw [has_up v hr0 hr (by omega) (by omega)]; simp
      have eH2 : hasB (up v r.toNat x) r (x + 1) = false := by rw [has_up v hr0 hr (by omega) (by omega)]; simp; omega
      have eC : cmpI (up v r.toNat x) (up v r.toNat (x + 1)) = 1 := cmp_up v (by omega) (by omega)
      refine Calls.mono (has_any _ _ _ _) ?_
      rintro e w10 ⟨rfl, hb'⟩
      replace K0 := Lib.hid (gbelow hb' K0.out)
      replace k7 := gblk hb' k7
      replace k9 := gblk hb' k9
      replace k11 := gblk hb' k11
      replace k13 := gblk hb' k13
      clear hb'
      have c110 : w10.cell? ⟨g11, 0, none⟩ = some (.int .i64 r) := cell_of_row w10 _ 0 _ _ _ k11
      have c111 : w10.cell? ⟨g11, 1, none⟩ = some (.int .i64 (x + 1)) := cell_of_row w10 _ 1 _ _ _ k11
      go_wp2_with fail
      clear c110 c111
      refine Calls.mono (has_any _ _ _ _) ?_
      rintro e w11 ⟨rfl, hb'⟩
      replace K0 := Lib.hid (gbelow hb' K0.out)
      replace k7 := gblk hb' k7
      replace k9 := gblk hb' k9
      replace k11 := gblk hb' k11
      replace k13 := gblk hb' k13
      clear hb'
      go_wp2_with fail
      refine Calls.mono (compare_any _ _ _) ?_
      rintro e w12 ⟨rfl, hb'⟩
      replace K0 := Lib.hid (gbelow hb' K0.out)
      replace k7 := gblk hb' k7
      replace k9 := gblk hb' k9
      replace k11 := gblk hb' k11
      replace k13 := gblk hb' k13
      clear hb'
      go_wp2
      go_roundw
      case rel =>
        have hx2 := HX.out
        refine ⟨j + 1, by omega, ?_, K0.out.trans ⟨rfl, rfl, rfl, by simp, fun i hi => setRow_other _ _ _ _ (by have := H9.out; omega)⟩, ?_, ?_⟩
        · have e : y - x - 1 = y - v r.toNat - ((j + 1 : Nat) : Int) := by omega
          rw [e]
        · rw [blk_setRow, if_neg N79.out]; exact k7
        · rw [blk_setRow, if_pos rfl, k9]
          have e : v r.toNat + ((j + 1 : Nat) : Int) = x + 1 := by omega
          rw [e]
      case measure =>
        have hx2 := HX.out
        simp [intOf]; omega
    · have e : v r.toNat + (j : Int) = y := by omega
      have hn : y - v r.toNat - (j : Int) = 0 := by omega
      rw [e] at k9
      rw [hn]
      clear e hn hlt hj
      have eS : same16 (up v r.toNat y) (up v r.toNat y) = true := same16_refl _
      go_wp2_with fail
      refine Calls.mono (lacks_at v r y y _ HV.out hr0 hr (by omega) (by omega) hy1) ?_
      rintro e w5 ⟨rfl, hb'⟩
      replace K0 := Lib.hid (gbelow hb' K0.out)
      clear hb' k7 k9
      go_wp2
      go_ret
      exact ⟨by simp, K0.out⟩

set_option maxRecDepth 100000 in
set_option maxHeartbeats 1000000 in
theorem walk_no (v : Nat → Int) (r m : Int) (w : World) (h : ¬ (rightB v = true ∧ 0 ≤ r ∧ r < 16)) :
    Calls Try.prog 12 #[.agg (vv v), .int .i64 r, .int .u8 m] w fun e w' => e = .returned (.bool true) ∧ Below w.heap.size w w' := by
  have H := Lib.hid h
  clear h
  go_enter Try.func12, Try.ntmps12
  go_wp2_with fail
  have k0 := (Below.refl w.heap.size w).alloc (Nat.le_refl _) (Obj.cells (vv v) 23)
  have k1 := gblk_new w (Obj.cells (vv v) 23)
  generalize w.alloc (Obj.cells (vv v) 23) = w1 at *
  refine Calls.mono (awake03_any _) ?_
  rintro e w2 ⟨rfl, hb'⟩
  replace k0 := gbelow hb' k0
  replace k1 := gblk hb' k1
  clear hb'
  go_wp2_with fail
  refine Calls.mono (right_any _ _) ?_
  rintro e w3 ⟨rfl, hb'⟩
  replace k0 := gbelow hb' k0
  clear hb' k1
  have K0 := Lib.hid k0
  clear k0
  cases hR : rightB v with
  | false =>
    go_wp2_with fail
    refine Calls.mono (awake03_any _) ?_
    rintro e w4 ⟨rfl, hb'⟩
    have K1 := Lib.hid (gbelow hb' K0.out)
    clear hb'
    go_wp2
    go_ret
    exact ⟨rfl, K1.out⟩
  | true =>
    by_cases h0 : r < 0
    · go_wp2_with fail
      refine Calls.mono (awake03_any _) ?_
      rintro e w4 ⟨rfl, hb'⟩
      have K1 := Lib.hid (gbelow hb' K0.out)
      clear hb'
      go_wp2
      go_ret
      exact ⟨rfl, K1.out⟩
    · have h1 : 16 ≤ r := by
        rcases Int.lt_or_le r 16 with h | h
        · exact absurd ⟨hR, by omega, h⟩ H.out
        · exact h
      go_wp2_with fail
      refine Calls.mono (awake03_any _) ?_
      rintro e w4 ⟨rfl, hb'⟩
      have K1 := Lib.hid (gbelow hb' K0.out)
      clear hb'
      go_wp2
      go_ret
      exact ⟨rfl, K1.out⟩

theorem walk (c0 : List Value) (r m : Int) (w : World) (h0 : LeavesOk [.int .i64, .int .i64, .int .i64, .int .i64, .int .i64, .int .i64, .int .i64, .int .i64, .int .i64, .int .i64, .int .i64, .int .i64, .int .i64, .int .i64, .int .i64, .int .i64] c0) (w1 : (Lit.int .i64 r).wf = true) (w2 : (Lit.int .u8 m).wf = true) :
    Calls Try.prog 12 #[.agg c0.toArray, .int .i64 r, .int .u8 m] w fun e w' => e = .returned (.bool true) ∧ Below w.heap.size w w' := by
  obtain ⟨a, ea, ha⟩ := vv_of h0
  have hm := bounds_u8 w2
  rw [ea]
  by_cases h : rightB a = true ∧ 0 ≤ r ∧ r < 16
  · exact walk_yes a r m w ha h.1 h.2.1 h.2.2 hm.1 hm.2
  · exact walk_no a r m w h

end Go.Proofs.Ythjeginhoddmiaa.vecCounts
