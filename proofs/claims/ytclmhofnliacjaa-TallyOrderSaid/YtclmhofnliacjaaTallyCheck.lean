/- The contracts of Check (the program's and the reference's). At most 2^22 events. -/
import Derived.Test.YtclmhofnliacjaaTallySum
namespace Go.Proofs.Ytclmhofnliacjaa
open Go.RowKit
attribute [local go_sem] bmax2_int bmin2_int bmax_two bmin_two blk_alloc blk_setRow blk_setCell blk_drew blk_drewN alloc_setRow cell_setRow_ne drew_setRow drewN_setRow fold_z0 vv_size vv_get vv_set
attribute [local go_sem ↓] exec_load_vv exec_store_vv exec_index_vv exec_eql_vv exec_neq_vv
attribute [local go_sem] loadVV_at storeVV_at indexVV_at eqVV_eql eqVV_neq ne_r2 ne_l2 ne_r3 ne_l3 ne_r4 ne_l4 ne_r5 ne_l5 ne_r6 ne_l6 ne_r7 ne_l7 ne_r8 ne_l8
set_option linter.unusedVariables false
set_option linter.unusedSimpArgs false
attribute [local go_sem] rowN_drew fold_zE evA_size evA_get0 evA_get1 evA_get2 evA_get19 evA_get20 evA_get21 evA_get22 evA_get23 evA_get24 evA_get25 loadEv_at storeEv_at rowN_ev_new
attribute [local go_sem ↓] exec_load_ev exec_store_ev

def checkI (L : List Ev) (n : Int) : Int := if n < -1099511627776 ∨ 1099511627776 < n then 6 else if sumE L + n < -1125899906842624 ∨ 1125899906842624 < sumE L + n then 6 else 0

set_option maxHeartbeats 1000000 in
theorem check_any (v : Value) (L : List Ev) (n : Int) (w : World) (h : EvSl w v L) (hL : L.length ≤ 4194304) :
    Calls Try.prog 10 #[v, .int .i64 n] w fun x w' => x = .returned (.int .i64 (checkI L n)) ∧ Below w.heap.size w w' := by
  have hbd := sumE_bd L
  have h1 : -4611686018427387904 ≤ sumE L := by omega
  have h2 : sumE L ≤ 4611686018427387904 := by omega
  clear hbd
  by_cases ha : n < -1099511627776
  · have E : Hid (checkI L n = 6) := Lib.hid (by unfold checkI; rw [if_pos (.inl ha)])
    go_enter Try.func10, Try.ntmps10
    go_wp2
    go_ret
    exact ⟨by rw [E.out]; rfl, Below.refl _ _⟩
  · by_cases hb : 1099511627776 < n
    · have E : Hid (checkI L n = 6) := Lib.hid (by unfold checkI; rw [if_pos (.inr hb)])
      go_enter Try.func10, Try.ntmps10
      go_wp2
      go_ret
      exact ⟨by rw [E.out]; rfl, Below.refl _ _⟩
    · have HS := Lib.hid (sum_any v L)
      by_cases hc : sumE L + n < -1125899906842624
      · have E : Hid (checkI L n = 6) := Lib.hid (by unfold checkI; rw [if_neg (by omega), if_pos (.inl hc)])
        have HE := Lib.hid h
        clear h
        go_enter Try.func10, Try.ntmps10
        go_wp2_with fail
        refine Calls.mono (HS.out _ HE.out hL) ?_
        rintro x w1 ⟨rfl, hb'⟩
        have HB := Lib.hid hb'
        clear hb'
        go_wp2
        go_ret
        exact ⟨by rw [E.out]; rfl, HB.out⟩
      · by_cases hd : 1125899906842624 < sumE L + n
        · have E : Hid (checkI L n = 6) := Lib.hid (by unfold checkI; rw [if_neg (by omega), if_pos (.inr hd)])
          have HE := Lib.hid h
          clear h
          go_enter Try.func10, Try.ntmps10
          go_wp2_with fail
          refine Calls.mono (HS.out _ HE.out hL) ?_
          rintro x w1 ⟨rfl, hb'⟩
          have HB := Lib.hid hb'
          clear hb'
          go_wp2
          go_ret
          exact ⟨by rw [E.out]; rfl, HB.out⟩
        · have E : Hid (checkI L n = 0) := Lib.hid (by unfold checkI; rw [if_neg (by omega), if_neg (by omega)])
          have HE := Lib.hid h
          clear h
          go_enter Try.func10, Try.ntmps10
          go_wp2_with fail
          refine Calls.mono (HS.out _ HE.out hL) ?_
          rintro x w1 ⟨rfl, hb'⟩
          have HB := Lib.hid hb'
          clear hb'
          go_wp2
          go_ret
          exact ⟨by rw [E.out]; rfl, HB.out⟩

set_option maxHeartbeats 1000000 in
theorem rcheck_any (v : Value) (L : List Ev) (n : Int) (w : World) (h : EvSl w v L) (hL : L.length ≤ 4194304) :
    Calls Try.prog 13 #[v, .int .i64 n] w fun x w' => x = .returned (.int .i64 (checkI L n)) ∧ Below w.heap.size w w' := by
  have hbd := sumE_bd L
  have h1 : -4611686018427387904 ≤ sumE L := by omega
  have h2 : sumE L ≤ 4611686018427387904 := by omega
  clear hbd
  by_cases ha : n < -1099511627776
  · have E : Hid (checkI L n = 6) := Lib.hid (by unfold checkI; rw [if_pos (.inl ha)])
    go_enter Try.func13, Try.ntmps13
    go_wp2
    go_ret
    exact ⟨by rw [E.out]; rfl, Below.refl _ _⟩
  · by_cases hb : 1099511627776 < n
    · have E : Hid (checkI L n = 6) := Lib.hid (by unfold checkI; rw [if_pos (.inr hb)])
      go_enter Try.func13, Try.ntmps13
      go_wp2
      go_ret
      exact ⟨by rw [E.out]; rfl, Below.refl _ _⟩
    · have HS := Lib.hid (rsum_any v L)
      by_cases hc : sumE L + n < -1125899906842624
      · have E : Hid (checkI L n = 6) := Lib.hid (by unfold checkI; rw [if_neg (by omega), if_pos (.inl hc)])
        have HE := Lib.hid h
        clear h
        go_enter Try.func13, Try.ntmps13
        go_wp2_with fail
        refine Calls.mono (HS.out _ HE.out hL) ?_
        rintro x w1 ⟨rfl, hb'⟩
        have HB := Lib.hid hb'
        clear hb'
        go_wp2
        go_ret
        exact ⟨by rw [E.out]; rfl, HB.out⟩
      · by_cases hd : 1125899906842624 < sumE L + n
        · have E : Hid (checkI L n = 6) := Lib.hid (by unfold checkI; rw [if_neg (by omega), if_pos (.inr hd)])
          have HE := Lib.hid h
          clear h
          go_enter Try.func13, Try.ntmps13
          go_wp2_with fail
          refine Calls.mono (HS.out _ HE.out hL) ?_
          rintro x w1 ⟨rfl, hb'⟩
          have HB := Lib.hid hb'
          clear hb'
          go_wp2
          go_ret
          exact ⟨by rw [E.out]; rfl, HB.out⟩
        · have E : Hid (checkI L n = 0) := Lib.hid (by unfold checkI; rw [if_neg (by omega), if_neg (by omega)])
          have HE := Lib.hid h
          clear h
          go_enter Try.func13, Try.ntmps13
          go_wp2_with fail
          refine Calls.mono (HS.out _ HE.out hL) ?_
          rintro x w1 ⟨rfl, hb'⟩
          have HB := Lib.hid hb'
          clear hb'
          go_wp2
          go_ret
          exact ⟨by rw [E.out]; rfl, HB.out⟩


end Go.Proofs.Ytclmhofnliacjaa
