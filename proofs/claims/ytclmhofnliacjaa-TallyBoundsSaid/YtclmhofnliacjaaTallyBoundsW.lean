/- The walk of polyphonylaw12.TallyBounds: it returns true, and what was there is as it was. No conditions. -/
import Derived.Test.YtclmhofnliacjaaTallyApp
import Derived.Test.YtclmhofnliacjaaTallyCheck
namespace Go.Proofs.Ytclmhofnliacjaa.tallyBounds
open Go.RowKit
attribute [local go_sem] bmax2_int bmin2_int bmax_two bmin_two blk_alloc blk_setRow blk_setCell blk_drew blk_drewN alloc_setRow cell_setRow_ne drew_setRow drewN_setRow fold_z0 vv_size vv_get vv_set
attribute [local go_sem ↓] exec_load_vv exec_store_vv exec_index_vv exec_eql_vv exec_neq_vv
attribute [local go_sem] loadVV_at storeVV_at indexVV_at eqVV_eql eqVV_neq ne_r2 ne_l2 ne_r3 ne_l3 ne_r4 ne_l4 ne_r5 ne_l5 ne_r6 ne_l6 ne_r7 ne_l7 ne_r8 ne_l8
set_option linter.unusedVariables false
set_option linter.unusedSimpArgs false
attribute [local go_sem] rowN_drew fold_zE evA_size evA_get0 evA_get1 evA_get2 evA_get19 evA_get20 evA_get21 evA_get22 evA_get23 evA_get24 evA_get25 loadEv_at storeEv_at rowN_ev_new
attribute [local go_sem ↓] exec_load_ev exec_store_ev

def evI (n : Int) : Ev := ⟨0, 0, 0, z0, 2, ByteArray.empty, ByteArray.empty, ByteArray.empty, n, 0, 0⟩
theorem evsl_new (w : World) (n : Int) : EvSl (w.alloc (.cells (evA (evI n)) 33)) (.slice (some ⟨w.heap.size, 0, none⟩) 1 1) [evI n] :=
  evsl_blk (L := [evI n]) (Nat.le_refl 1) (by decide) (gblk_new w _) fun j hj => by rw [← Array.getElem?_toList]; exact congrArg (fun l : List Value => l[j]?) (show (evA (evI n)).toList = evs [evI n] from rfl)

set_option maxRecDepth 100000 in
set_option maxHeartbeats 4000000 in
theorem walk_ev (v : Value) (a : Option Addr) (cap : Nat) (L : List Ev) (n : Int) (w : World) (hv : v = .slice a L.length cap) (h : EvSl w v L) :
    Calls Try.prog 4 #[v, .int .i64 n] w fun e w' => e = .returned (.bool true) ∧ Below w.heap.size w w' := by
  subst hv
  have HS := Lib.hid h
  clear h
  go_enter Try.func4, Try.ntmps4
  go_wp2_with fail
  refine Calls.mono (awake12_any _) ?_
  rintro e w2 ⟨rfl, hb'⟩
  have HB := Lib.hid hb'
  have HS2 := Lib.hid (HS.out.keep hb')
  clear hb' HS
  by_cases hL : (L.length : Int) > 2000
  · go_wp2_with fail
    refine Calls.mono (awake12_any _) ?_
    rintro e w3 ⟨rfl, hb'⟩
    have HB3 := Lib.hid hb'
    clear hb'
    go_wp2
    go_ret
    exact ⟨rfl, gbelow HB3.out HB.out⟩
  · have hL' : L.length ≤ 2000 := by omega
    have HL := Lib.hid hL'
    clear hL'
    go_wp2_with fail
    refine Calls.mono (check_any _ L n _ HS2.out (by have := HL.out; omega)) ?_
    rintro e w3 ⟨rfl, hb'⟩
    have HB3 := Lib.hid (gbelow hb' HB.out)
    have HS3 := Lib.hid (HS2.out.keep hb')
    clear hb' HB HS2
    by_cases hn1 : n < -1099511627776
    · have hc : checkI L n = 6 := by unfold checkI; rw [if_pos (.inl hn1)]
      go_wp2
      go_ret
      exact ⟨by simp [hc], HB3.out⟩
    by_cases hn2 : 1099511627776 < n
    · have hc : checkI L n = 6 := by unfold checkI; rw [if_pos (.inr hn2)]
      go_wp2
      go_ret
      exact ⟨by simp [hc], HB3.out⟩
    have HSa := Lib.hid (HS3.out.keep ((Below.refl w3.heap.size w3).alloc (Nat.le_refl _) (.cells #[] 33)))
    go_wp2_with (first
      | (at_builtin; refine wpList_append_ev rfl _ _ rfl w3.heap.size _ _ [] L rfl rfl (OwnEv.made w3 _ (Nat.le_refl _)) HSa.out (by have := HL.out; simp; omega) (by simp) ?_; intro v1 w4 ho1 hg1 hat1)
      | (at_builtin; refine wpList_append_ev rfl _ _ rfl w3.heap.size _ _ L [evI n] rfl rfl (ho1.alloc _) (evsl_new _ _) (by have := HL.out; simp; omega) (by have := hg1.size; simp at this ⊢; omega) ?_; intro v2 w5 ho2 hg2 hat2))
    have HB5 := Lib.hid (grown_below hg2 (ho1.alloc _) (by have := hg1.size; simp at this ⊢; omega) (grown_below hg1 (OwnEv.made w3 _ (Nat.le_refl _)) (by simp) ((Below.refl w3.heap.size w3).alloc (Nat.le_refl _) _) |>.alloc (by have := hg1.size; simp at this ⊢; omega) _))
    have HO := Lib.hid ho2.sl
    clear ho1 ho2 hg1 hg2 hat1 hat2
    refine Calls.mono (sum_any _ _ _ HO.out (by have := HL.out; simp; omega)) ?_
    rintro e w6 ⟨rfl, hb'⟩
    have HB6 := Lib.hid (gbelow (gbelow hb' HB5.out) HB3.out)
    have E : sumE (L ++ [evI n]) = sumE L + n := by
      rw [sumE_append, sumE_one]
      have : oneE (evI n) = n := by
        have h2 : oneE (evI n) = heldN n := by simp [oneE, evI]
        rw [h2]
        unfold heldN mx mn
        split <;> split <;> omega
      rw [this]
    have EC : checkI L n = if sumE L + n < -1125899906842624 ∨ 1125899906842624 < sumE L + n then 6 else 0 := by unfold checkI; rw [if_neg (by omega)]
    rw [E]
    clear E hb'
    by_cases hq : sumE L + n < -1125899906842624 ∨ 1125899906842624 < sumE L + n
    · rw [if_pos hq] at EC
      rw [EC]
      generalize sumE L + n = q at *
      go_wp2
      all_goals go_ret
      all_goals exact ⟨by simp <;> omega, HB6.out⟩
    · rw [if_neg hq] at EC
      rw [EC]
      generalize sumE L + n = q at *
      go_wp2
      all_goals go_ret
      all_goals exact ⟨by simp <;> omega, HB6.out⟩

theorem walk (a : Option Addr) (len cap : Nat) (n : Int) (w : World) (hl : len ≤ cap) (hm : cap ≤ maxLen) (hr : RowsIn [.int .i64, .int .i64, .int .i64, .int .i64, .int .i64, .int .i64, .int .i64, .int .i64, .int .i64, .int .i64, .int .i64, .int .i64, .int .i64, .int .i64, .int .i64, .int .i64, .int .i64, .int .i64, .int .i64, .int .i64, .string, .string, .string, .int .i64, .int .i64, .int .i64] w a len) (w1 : (Lit.int .i64 n).wf = true) :
    Calls Try.prog 4 #[.slice a len cap, .int .i64 n] w fun e w' => e = .returned (.bool true) ∧ Below w.heap.size w w' := by
  obtain ⟨L, rfl, hL, _⟩ := evs_of hl hm hr
  exact walk_ev _ a cap L n w rfl hL

end Go.Proofs.Ytclmhofnliacjaa.tallyBounds
